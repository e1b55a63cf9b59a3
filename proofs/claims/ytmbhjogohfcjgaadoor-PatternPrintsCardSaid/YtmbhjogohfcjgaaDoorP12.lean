-- Laid by wip/tools/xprint.py, a program of this session's, over the kit's print. Lean checks it.
import Derived.Test.YtmbhjogohfcjgaaDoorP0
import Derived.Test.YtmbhjogohfcjgaaDoorP1
import Derived.Test.YtmbhjogohfcjgaaDoorP6
namespace Go.Proofs.YtmbhjogohfcjgaaDoor.P
open Go.RowKit Go.Proofs.YtmbhjogohfcjgaaDoorW.PrintWords Go.Proofs.YtmbhjogohfcjgaaDoorW.PrintLast Go.Proofs.YtmbhjogohfcjgaaDoorW.PrintMore
attribute [local go_sem] max2_int min2_int max_two min_two max_three min_three max_four min_four   -- for this text's walks alone
set_option linter.unusedVariables false
set_option linter.unusedSimpArgs false
def tabardref13_sign.f (a0_0 : Int) (a0_1 : ByteArray) : Option (ByteArray) := if a0_0 = 1 then (if a0_1.toList = ([32] : List UInt8) then (some a0_1) else (if a0_1.toList = ([45] : List UInt8) then (some a0_1) else (if a0_1.toList = ([43] : List UInt8) then (some a0_1) else (if a0_1.toList = ([40] : List UInt8) then (some a0_1) else (if a0_1.toList = ([41] : List UInt8) then (some a0_1) else (if a0_1.toList = ([58] : List UInt8) then (some a0_1) else (if 1 + a0_1.size ≤ 9223372036854775807 then (some ((⟨#[92]⟩ : ByteArray) ++ a0_1)) else (none)))))))) else (if a0_0 = 2 then (some a0_1) else (if a0_0 = 5 then (if 1 + a0_1.size ≤ 9223372036854775807 then (some ((⟨#[69]⟩ : ByteArray) ++ a0_1)) else (none)) else (if a0_0 = 7 then (some (⟨#[71, 101, 110, 101, 114, 97, 108]⟩ : ByteArray)) else ((some (([(⟨#[]⟩ : ByteArray), (⟨#[]⟩ : ByteArray), (⟨#[]⟩ : ByteArray), (⟨#[46]⟩ : ByteArray), (⟨#[37]⟩ : ByteArray), (⟨#[]⟩ : ByteArray), (⟨#[47]⟩ : ByteArray), (⟨#[]⟩ : ByteArray), (⟨#[64]⟩ : ByteArray), (⟨#[36]⟩ : ByteArray)] : List ByteArray) : List ByteArray)).bind fun y228 => (if 0 ≤ a0_0 then (if a0_0 < (y228.length : Int) then (some (rdOf ByteArray.empty y228 a0_0)) else (none)) else (none))))))
set_option maxHeartbeats 8000000 in
set_option maxRecDepth 100000 in
theorem tabardref13_sign.calls (a0_0 : Int) (a0_1 : ByteArray) (r : ByteArray) (w : World) (h : tabardref13_sign.f a0_0 a0_1 = some r) :
  Calls Tryd.prog 65 #[.agg #[.int .i64 a0_0, .string a0_1]] w fun e w' => e = .returned (.string r) ∧ Below w.heap.size w w' := by
 have hu98 := Tryd.underlying98
 have HB := Aside0.mk (Below.refl w.heap.size w)
 have H : (if a0_0 = 1 then (if a0_1.toList = ([32] : List UInt8) then (some a0_1) else (if a0_1.toList = ([45] : List UInt8) then (some a0_1) else (if a0_1.toList = ([43] : List UInt8) then (some a0_1) else (if a0_1.toList = ([40] : List UInt8) then (some a0_1) else (if a0_1.toList = ([41] : List UInt8) then (some a0_1) else (if a0_1.toList = ([58] : List UInt8) then (some a0_1) else (if 1 + a0_1.size ≤ 9223372036854775807 then (some ((⟨#[92]⟩ : ByteArray) ++ a0_1)) else (none)))))))) else (if a0_0 = 2 then (some a0_1) else (if a0_0 = 5 then (if 1 + a0_1.size ≤ 9223372036854775807 then (some ((⟨#[69]⟩ : ByteArray) ++ a0_1)) else (none)) else (if a0_0 = 7 then (some (⟨#[71, 101, 110, 101, 114, 97, 108]⟩ : ByteArray)) else ((some (([(⟨#[]⟩ : ByteArray), (⟨#[]⟩ : ByteArray), (⟨#[]⟩ : ByteArray), (⟨#[46]⟩ : ByteArray), (⟨#[37]⟩ : ByteArray), (⟨#[]⟩ : ByteArray), (⟨#[47]⟩ : ByteArray), (⟨#[]⟩ : ByteArray), (⟨#[64]⟩ : ByteArray), (⟨#[36]⟩ : ByteArray)] : List ByteArray) : List ByteArray)).bind fun y228 => (if 0 ≤ a0_0 then (if a0_0 < (y228.length : Int) then (some (rdOf ByteArray.empty y228 a0_0)) else (none)) else (none))))))) = some r := h
 clear h
 by_cases c2 : a0_0 = 1
 ·rw [if_pos c2] at H
  have c2b0 : (a0_0 == 1) = true := beq_iff_eq.mpr c2
  have c2b1 : (a0_0 != 1) = false := bne_eq_false_iff_eq.mpr c2
  clear c2
  by_cases c3 : a0_1.toList = ([32] : List UInt8)
  ·rw [if_pos c3] at H
   have c3b0 : (a0_1.toList == ([32] : List UInt8)) = true := beq_iff_eq.mpr c3
   have c3b1 : (a0_1.toList != ([32] : List UInt8)) = false := bne_eq_false_iff_eq.mpr c3
   clear c3
   obtain rfl := Option.some.inj H
   go_enter Tryd.func65, Tryd.ntmps65
   go_wp2_with (first | ((with_reducible refine gate_dst (N := 1) rfl ?_); refine box_event ?hg (N := 1) ?hd (cs := #[.int .i64 a0_0, .string a0_1]) (t := 98) ?hr ?_; (case hd => rfl); (case hg => rfl); (case hr => exact Z18); intro gb227 hg w4 hbox hb; have n0_ := Aside0.mk (below_step Z2 hb); have n1_ := Aside0.mk (hbox); have n2_ := Aside0.mk ((by rw [hg]; exact (below_size Z2) : w.heap.size ≤ gb227)); have n3_ := Aside0.mk ((by rw [hg]; exact (below_size Z2) : w.heap.size ≤ gb227)); clear HB; have HB := n0_; have BK227 := n1_; have GW227 := n2_; have GE227 := n3_; clear n0_ n1_ n2_ n3_; clear hb hbox hg; have hcz5_0 : w4.cell? ⟨gb227, 0, none⟩ = some (.int .i64 a0_0) := (blk_cell BK227.out 0).trans rfl; have hcz5_1 : w4.cell? ⟨gb227, 1, none⟩ = some (.string a0_1) := (blk_cell BK227.out 1).trans rfl; have hfz5_0 := blk_frozen BK227.out 0; have hfz5_1 := blk_frozen BK227.out 1))
   go_ret
   exact Z14
  ·rw [if_neg c3] at H
   have c3b0 : (a0_1.toList == ([32] : List UInt8)) = false := beq_eq_false_iff_ne.mpr c3
   have c3b1 : (a0_1.toList != ([32] : List UInt8)) = true := bne_iff_ne.mpr c3
   by_cases c6 : a0_1.toList = ([45] : List UInt8)
   ·rw [if_pos c6] at H
    have c6b0 : (a0_1.toList == ([45] : List UInt8)) = true := beq_iff_eq.mpr c6
    have c6b1 : (a0_1.toList != ([45] : List UInt8)) = false := bne_eq_false_iff_eq.mpr c6
    clear c6
    obtain rfl := Option.some.inj H
    go_enter Tryd.func65, Tryd.ntmps65
    go_wp2_with (first | ((with_reducible refine gate_dst (N := 1) rfl ?_); refine box_event ?hg (N := 1) ?hd (cs := #[.int .i64 a0_0, .string a0_1]) (t := 98) ?hr ?_; (case hd => rfl); (case hg => rfl); (case hr => exact Z18); intro gb227 hg w7 hbox hb; have n0_ := Aside0.mk (below_step Z2 hb); have n1_ := Aside0.mk (hbox); have n2_ := Aside0.mk ((by rw [hg]; exact (below_size Z2) : w.heap.size ≤ gb227)); have n3_ := Aside0.mk ((by rw [hg]; exact (below_size Z2) : w.heap.size ≤ gb227)); clear HB; have HB := n0_; have BK227 := n1_; have GW227 := n2_; have GE227 := n3_; clear n0_ n1_ n2_ n3_; clear hb hbox hg; have hcz8_0 : w7.cell? ⟨gb227, 0, none⟩ = some (.int .i64 a0_0) := (blk_cell BK227.out 0).trans rfl; have hcz8_1 : w7.cell? ⟨gb227, 1, none⟩ = some (.string a0_1) := (blk_cell BK227.out 1).trans rfl; have hfz8_0 := blk_frozen BK227.out 0; have hfz8_1 := blk_frozen BK227.out 1))
    go_ret
    exact Z14
   ·rw [if_neg c6] at H
    have c6b0 : (a0_1.toList == ([45] : List UInt8)) = false := beq_eq_false_iff_ne.mpr c6
    have c6b1 : (a0_1.toList != ([45] : List UInt8)) = true := bne_iff_ne.mpr c6
    by_cases c9 : a0_1.toList = ([43] : List UInt8)
    ·rw [if_pos c9] at H
     have c9b0 : (a0_1.toList == ([43] : List UInt8)) = true := beq_iff_eq.mpr c9
     have c9b1 : (a0_1.toList != ([43] : List UInt8)) = false := bne_eq_false_iff_eq.mpr c9
     clear c9
     obtain rfl := Option.some.inj H
     go_enter Tryd.func65, Tryd.ntmps65
     go_wp2_with (first | ((with_reducible refine gate_dst (N := 1) rfl ?_); refine box_event ?hg (N := 1) ?hd (cs := #[.int .i64 a0_0, .string a0_1]) (t := 98) ?hr ?_; (case hd => rfl); (case hg => rfl); (case hr => exact Z18); intro gb227 hg w10 hbox hb; have n0_ := Aside0.mk (below_step Z2 hb); have n1_ := Aside0.mk (hbox); have n2_ := Aside0.mk ((by rw [hg]; exact (below_size Z2) : w.heap.size ≤ gb227)); have n3_ := Aside0.mk ((by rw [hg]; exact (below_size Z2) : w.heap.size ≤ gb227)); clear HB; have HB := n0_; have BK227 := n1_; have GW227 := n2_; have GE227 := n3_; clear n0_ n1_ n2_ n3_; clear hb hbox hg; have hcz11_0 : w10.cell? ⟨gb227, 0, none⟩ = some (.int .i64 a0_0) := (blk_cell BK227.out 0).trans rfl; have hcz11_1 : w10.cell? ⟨gb227, 1, none⟩ = some (.string a0_1) := (blk_cell BK227.out 1).trans rfl; have hfz11_0 := blk_frozen BK227.out 0; have hfz11_1 := blk_frozen BK227.out 1))
     go_ret
     exact Z14
    ·rw [if_neg c9] at H
     have c9b0 : (a0_1.toList == ([43] : List UInt8)) = false := beq_eq_false_iff_ne.mpr c9
     have c9b1 : (a0_1.toList != ([43] : List UInt8)) = true := bne_iff_ne.mpr c9
     by_cases c12 : a0_1.toList = ([40] : List UInt8)
     ·rw [if_pos c12] at H
      have c12b0 : (a0_1.toList == ([40] : List UInt8)) = true := beq_iff_eq.mpr c12
      have c12b1 : (a0_1.toList != ([40] : List UInt8)) = false := bne_eq_false_iff_eq.mpr c12
      clear c12
      obtain rfl := Option.some.inj H
      go_enter Tryd.func65, Tryd.ntmps65
      go_wp2_with (first | ((with_reducible refine gate_dst (N := 1) rfl ?_); refine box_event ?hg (N := 1) ?hd (cs := #[.int .i64 a0_0, .string a0_1]) (t := 98) ?hr ?_; (case hd => rfl); (case hg => rfl); (case hr => exact Z18); intro gb227 hg w13 hbox hb; have n0_ := Aside0.mk (below_step Z2 hb); have n1_ := Aside0.mk (hbox); have n2_ := Aside0.mk ((by rw [hg]; exact (below_size Z2) : w.heap.size ≤ gb227)); have n3_ := Aside0.mk ((by rw [hg]; exact (below_size Z2) : w.heap.size ≤ gb227)); clear HB; have HB := n0_; have BK227 := n1_; have GW227 := n2_; have GE227 := n3_; clear n0_ n1_ n2_ n3_; clear hb hbox hg; have hcz14_0 : w13.cell? ⟨gb227, 0, none⟩ = some (.int .i64 a0_0) := (blk_cell BK227.out 0).trans rfl; have hcz14_1 : w13.cell? ⟨gb227, 1, none⟩ = some (.string a0_1) := (blk_cell BK227.out 1).trans rfl; have hfz14_0 := blk_frozen BK227.out 0; have hfz14_1 := blk_frozen BK227.out 1))
      go_ret
      exact Z14
     ·rw [if_neg c12] at H
      have c12b0 : (a0_1.toList == ([40] : List UInt8)) = false := beq_eq_false_iff_ne.mpr c12
      have c12b1 : (a0_1.toList != ([40] : List UInt8)) = true := bne_iff_ne.mpr c12
      by_cases c15 : a0_1.toList = ([41] : List UInt8)
      ·rw [if_pos c15] at H
       have c15b0 : (a0_1.toList == ([41] : List UInt8)) = true := beq_iff_eq.mpr c15
       have c15b1 : (a0_1.toList != ([41] : List UInt8)) = false := bne_eq_false_iff_eq.mpr c15
       clear c15
       obtain rfl := Option.some.inj H
       go_enter Tryd.func65, Tryd.ntmps65
       go_wp2_with (first | ((with_reducible refine gate_dst (N := 1) rfl ?_); refine box_event ?hg (N := 1) ?hd (cs := #[.int .i64 a0_0, .string a0_1]) (t := 98) ?hr ?_; (case hd => rfl); (case hg => rfl); (case hr => exact Z18); intro gb227 hg w16 hbox hb; have n0_ := Aside0.mk (below_step Z2 hb); have n1_ := Aside0.mk (hbox); have n2_ := Aside0.mk ((by rw [hg]; exact (below_size Z2) : w.heap.size ≤ gb227)); have n3_ := Aside0.mk ((by rw [hg]; exact (below_size Z2) : w.heap.size ≤ gb227)); clear HB; have HB := n0_; have BK227 := n1_; have GW227 := n2_; have GE227 := n3_; clear n0_ n1_ n2_ n3_; clear hb hbox hg; have hcz17_0 : w16.cell? ⟨gb227, 0, none⟩ = some (.int .i64 a0_0) := (blk_cell BK227.out 0).trans rfl; have hcz17_1 : w16.cell? ⟨gb227, 1, none⟩ = some (.string a0_1) := (blk_cell BK227.out 1).trans rfl; have hfz17_0 := blk_frozen BK227.out 0; have hfz17_1 := blk_frozen BK227.out 1))
       go_ret
       exact Z14
      ·rw [if_neg c15] at H
       have c15b0 : (a0_1.toList == ([41] : List UInt8)) = false := beq_eq_false_iff_ne.mpr c15
       have c15b1 : (a0_1.toList != ([41] : List UInt8)) = true := bne_iff_ne.mpr c15
       by_cases c18 : a0_1.toList = ([58] : List UInt8)
       ·rw [if_pos c18] at H
        have c18b0 : (a0_1.toList == ([58] : List UInt8)) = true := beq_iff_eq.mpr c18
        have c18b1 : (a0_1.toList != ([58] : List UInt8)) = false := bne_eq_false_iff_eq.mpr c18
        clear c18
        obtain rfl := Option.some.inj H
        go_enter Tryd.func65, Tryd.ntmps65
        go_wp2_with (first | ((with_reducible refine gate_dst (N := 1) rfl ?_); refine box_event ?hg (N := 1) ?hd (cs := #[.int .i64 a0_0, .string a0_1]) (t := 98) ?hr ?_; (case hd => rfl); (case hg => rfl); (case hr => exact Z18); intro gb227 hg w19 hbox hb; have n0_ := Aside0.mk (below_step Z2 hb); have n1_ := Aside0.mk (hbox); have n2_ := Aside0.mk ((by rw [hg]; exact (below_size Z2) : w.heap.size ≤ gb227)); have n3_ := Aside0.mk ((by rw [hg]; exact (below_size Z2) : w.heap.size ≤ gb227)); clear HB; have HB := n0_; have BK227 := n1_; have GW227 := n2_; have GE227 := n3_; clear n0_ n1_ n2_ n3_; clear hb hbox hg; have hcz20_0 : w19.cell? ⟨gb227, 0, none⟩ = some (.int .i64 a0_0) := (blk_cell BK227.out 0).trans rfl; have hcz20_1 : w19.cell? ⟨gb227, 1, none⟩ = some (.string a0_1) := (blk_cell BK227.out 1).trans rfl; have hfz20_0 := blk_frozen BK227.out 0; have hfz20_1 := blk_frozen BK227.out 1))
        go_ret
        exact Z14
       ·rw [if_neg c18] at H
        have c18b0 : (a0_1.toList == ([58] : List UInt8)) = false := beq_eq_false_iff_ne.mpr c18
        have c18b1 : (a0_1.toList != ([58] : List UInt8)) = true := bne_iff_ne.mpr c18
        by_cases c21 : 1 + a0_1.size ≤ 9223372036854775807
        ·rw [if_pos c21] at H
         have c21b0 := eq_true c21
         have c21b1 : decide (1 + a0_1.size ≤ 9223372036854775807) = true := decide_eq_true c21
         try have c21b2 : (9223372036854775807 < 1 + a0_1.size) = False := eq_false (Nat.not_lt.2 c21)
         obtain rfl := Option.some.inj H
         go_enter Tryd.func65, Tryd.ntmps65
         go_wp2_with (first | ((with_reducible refine gate_dst (N := 1) rfl ?_); refine box_event ?hg (N := 1) ?hd (cs := #[.int .i64 a0_0, .string a0_1]) (t := 98) ?hr ?_; (case hd => rfl); (case hg => rfl); (case hr => exact Z18); intro gb227 hg w22 hbox hb; have n0_ := Aside0.mk (below_step Z2 hb); have n1_ := Aside0.mk (hbox); have n2_ := Aside0.mk ((by rw [hg]; exact (below_size Z2) : w.heap.size ≤ gb227)); have n3_ := Aside0.mk ((by rw [hg]; exact (below_size Z2) : w.heap.size ≤ gb227)); clear HB; have HB := n0_; have BK227 := n1_; have GW227 := n2_; have GE227 := n3_; clear n0_ n1_ n2_ n3_; clear hb hbox hg; have hcz23_0 : w22.cell? ⟨gb227, 0, none⟩ = some (.int .i64 a0_0) := (blk_cell BK227.out 0).trans rfl; have hcz23_1 : w22.cell? ⟨gb227, 1, none⟩ = some (.string a0_1) := (blk_cell BK227.out 1).trans rfl; have hfz23_0 := blk_frozen BK227.out 0; have hfz23_1 := blk_frozen BK227.out 1))
         go_ret
         exact Z14
        ·rw [if_neg c21] at H
         exact Z33
 ·rw [if_neg c2] at H
  have c2b0 : (a0_0 == 1) = false := beq_eq_false_iff_ne.mpr c2
  have c2b1 : (a0_0 != 1) = true := bne_iff_ne.mpr c2
  by_cases c24 : a0_0 = 2
  ·rw [if_pos c24] at H
   have c24b0 : (a0_0 == 2) = true := beq_iff_eq.mpr c24
   have c24b1 : (a0_0 != 2) = false := bne_eq_false_iff_eq.mpr c24
   clear c24
   obtain rfl := Option.some.inj H
   go_enter Tryd.func65, Tryd.ntmps65
   go_wp2_with (first | ((with_reducible refine gate_dst (N := 1) rfl ?_); refine box_event ?hg (N := 1) ?hd (cs := #[.int .i64 a0_0, .string a0_1]) (t := 98) ?hr ?_; (case hd => rfl); (case hg => rfl); (case hr => exact Z18); intro gb227 hg w25 hbox hb; have n0_ := Aside0.mk (below_step Z2 hb); have n1_ := Aside0.mk (hbox); have n2_ := Aside0.mk ((by rw [hg]; exact (below_size Z2) : w.heap.size ≤ gb227)); have n3_ := Aside0.mk ((by rw [hg]; exact (below_size Z2) : w.heap.size ≤ gb227)); clear HB; have HB := n0_; have BK227 := n1_; have GW227 := n2_; have GE227 := n3_; clear n0_ n1_ n2_ n3_; clear hb hbox hg; have hcz26_0 : w25.cell? ⟨gb227, 0, none⟩ = some (.int .i64 a0_0) := (blk_cell BK227.out 0).trans rfl; have hcz26_1 : w25.cell? ⟨gb227, 1, none⟩ = some (.string a0_1) := (blk_cell BK227.out 1).trans rfl; have hfz26_0 := blk_frozen BK227.out 0; have hfz26_1 := blk_frozen BK227.out 1))
   go_ret
   exact Z14
  ·rw [if_neg c24] at H
   have c24b0 : (a0_0 == 2) = false := beq_eq_false_iff_ne.mpr c24
   have c24b1 : (a0_0 != 2) = true := bne_iff_ne.mpr c24
   by_cases c27 : a0_0 = 5
   ·rw [if_pos c27] at H
    have c27b0 : (a0_0 == 5) = true := beq_iff_eq.mpr c27
    have c27b1 : (a0_0 != 5) = false := bne_eq_false_iff_eq.mpr c27
    clear c27
    by_cases c28 : 1 + a0_1.size ≤ 9223372036854775807
    ·rw [if_pos c28] at H
     have c28b0 := eq_true c28
     have c28b1 : decide (1 + a0_1.size ≤ 9223372036854775807) = true := decide_eq_true c28
     try have c28b2 : (9223372036854775807 < 1 + a0_1.size) = False := eq_false (Nat.not_lt.2 c28)
     obtain rfl := Option.some.inj H
     go_enter Tryd.func65, Tryd.ntmps65
     go_wp2_with (first | ((with_reducible refine gate_dst (N := 1) rfl ?_); refine box_event ?hg (N := 1) ?hd (cs := #[.int .i64 a0_0, .string a0_1]) (t := 98) ?hr ?_; (case hd => rfl); (case hg => rfl); (case hr => exact Z18); intro gb227 hg w29 hbox hb; have n0_ := Aside0.mk (below_step Z2 hb); have n1_ := Aside0.mk (hbox); have n2_ := Aside0.mk ((by rw [hg]; exact (below_size Z2) : w.heap.size ≤ gb227)); have n3_ := Aside0.mk ((by rw [hg]; exact (below_size Z2) : w.heap.size ≤ gb227)); clear HB; have HB := n0_; have BK227 := n1_; have GW227 := n2_; have GE227 := n3_; clear n0_ n1_ n2_ n3_; clear hb hbox hg; have hcz30_0 : w29.cell? ⟨gb227, 0, none⟩ = some (.int .i64 a0_0) := (blk_cell BK227.out 0).trans rfl; have hcz30_1 : w29.cell? ⟨gb227, 1, none⟩ = some (.string a0_1) := (blk_cell BK227.out 1).trans rfl; have hfz30_0 := blk_frozen BK227.out 0; have hfz30_1 := blk_frozen BK227.out 1))
     go_ret
     exact Z14
    ·rw [if_neg c28] at H
     exact Z33
   ·rw [if_neg c27] at H
    have c27b0 : (a0_0 == 5) = false := beq_eq_false_iff_ne.mpr c27
    have c27b1 : (a0_0 != 5) = true := bne_iff_ne.mpr c27
    by_cases c31 : a0_0 = 7
    ·rw [if_pos c31] at H
     have c31b0 : (a0_0 == 7) = true := beq_iff_eq.mpr c31
     have c31b1 : (a0_0 != 7) = false := bne_eq_false_iff_eq.mpr c31
     clear c31
     obtain rfl := Option.some.inj H
     go_enter Tryd.func65, Tryd.ntmps65
     go_wp2_with (first | ((with_reducible refine gate_dst (N := 1) rfl ?_); refine box_event ?hg (N := 1) ?hd (cs := #[.int .i64 a0_0, .string a0_1]) (t := 98) ?hr ?_; (case hd => rfl); (case hg => rfl); (case hr => exact Z18); intro gb227 hg w32 hbox hb; have n0_ := Aside0.mk (below_step Z2 hb); have n1_ := Aside0.mk (hbox); have n2_ := Aside0.mk ((by rw [hg]; exact (below_size Z2) : w.heap.size ≤ gb227)); have n3_ := Aside0.mk ((by rw [hg]; exact (below_size Z2) : w.heap.size ≤ gb227)); clear HB; have HB := n0_; have BK227 := n1_; have GW227 := n2_; have GE227 := n3_; clear n0_ n1_ n2_ n3_; clear hb hbox hg; have hcz33_0 : w32.cell? ⟨gb227, 0, none⟩ = some (.int .i64 a0_0) := (blk_cell BK227.out 0).trans rfl; have hcz33_1 : w32.cell? ⟨gb227, 1, none⟩ = some (.string a0_1) := (blk_cell BK227.out 1).trans rfl; have hfz33_0 := blk_frozen BK227.out 0; have hfz33_1 := blk_frozen BK227.out 1))
     go_ret
     exact Z14
    ·rw [if_neg c31] at H
     have c31b0 : (a0_0 == 7) = false := beq_eq_false_iff_ne.mpr c31
     have c31b1 : (a0_0 != 7) = true := bne_iff_ne.mpr c31
     obtain ⟨y228, hy228⟩ : ∃ y_ : List ByteArray, y_ = (([(⟨#[]⟩ : ByteArray), (⟨#[]⟩ : ByteArray), (⟨#[]⟩ : ByteArray), (⟨#[46]⟩ : ByteArray), (⟨#[37]⟩ : ByteArray), (⟨#[]⟩ : ByteArray), (⟨#[47]⟩ : ByteArray), (⟨#[]⟩ : ByteArray), (⟨#[64]⟩ : ByteArray), (⟨#[36]⟩ : ByteArray)] : List ByteArray)) := ⟨_, rfl⟩
     replace H : (if 0 ≤ a0_0 then (if a0_0 < (y228.length : Int) then (some (rdOf ByteArray.empty y228 a0_0)) else (none)) else (none)) = some r := by first | (rw [hy228]; with_reducible exact H) | (have H2_ := (Option.bind_some _ _).symm.trans H; rw [hy228]; with_reducible exact H2_) | (have H2_ := (Option.bind_some _ _).symm.trans H; with_reducible exact H2_) | with_reducible exact H | (rw [hy228]; exact H) | exact H
     have Ny228 := Aside0.mk hy228
     clear hy228
     by_cases c34 : 0 ≤ a0_0
     ·rw [if_pos c34] at H
      have c34b0 : decide (0 ≤ a0_0) = true := decide_eq_true c34
      clear c34
      by_cases c35 : a0_0 < (y228.length : Int)
      ·rw [if_pos c35] at H
       have c35b0 : decide (a0_0 < (y228.length : Int)) = true := decide_eq_true c35
       clear c35
       obtain rfl := Option.some.inj H
       go_enter Tryd.func65, Tryd.ntmps65
       go_wp2_with (first | ((with_reducible refine gate_dst (N := 1) rfl ?_); refine box_event ?hg (N := 1) ?hd (cs := #[.int .i64 a0_0, .string a0_1]) (t := 98) ?hr ?_; (case hd => rfl); (case hg => rfl); (case hr => exact Z18); intro gb227 hg w36 hbox hb; have n0_ := Aside0.mk (below_step Z2 hb); have n1_ := Aside0.mk (hbox); have n2_ := Aside0.mk ((by rw [hg]; exact (below_size Z2) : w.heap.size ≤ gb227)); have n3_ := Aside0.mk ((by rw [hg]; exact (below_size Z2) : w.heap.size ≤ gb227)); clear HB; have HB := n0_; have BK227 := n1_; have GW227 := n2_; have GE227 := n3_; clear n0_ n1_ n2_ n3_; clear hb hbox hg; have hcz37_0 : w36.cell? ⟨gb227, 0, none⟩ = some (.int .i64 a0_0) := (blk_cell BK227.out 0).trans rfl; have hcz37_1 : w36.cell? ⟨gb227, 1, none⟩ = some (.string a0_1) := (blk_cell BK227.out 1).trans rfl; have hfz37_0 := blk_frozen BK227.out 0; have hfz37_1 := blk_frozen BK227.out 1) | ((with_reducible refine gate_dst (N := 32) rfl ?_); refine Kd.R_lit Kd.string _ 9 ?hg (N := 32) ?hd (xs := ([(⟨#[]⟩ : ByteArray), (⟨#[]⟩ : ByteArray), (⟨#[]⟩ : ByteArray), (⟨#[46]⟩ : ByteArray), (⟨#[37]⟩ : ByteArray), (⟨#[]⟩ : ByteArray), (⟨#[47]⟩ : ByteArray), (⟨#[]⟩ : ByteArray), (⟨#[64]⟩ : ByteArray), (⟨#[36]⟩ : ByteArray)] : List ByteArray)) (inner := [.string (⟨#[]⟩ : ByteArray), .string (⟨#[]⟩ : ByteArray), .string (⟨#[]⟩ : ByteArray), .string (⟨#[46]⟩ : ByteArray), .string (⟨#[37]⟩ : ByteArray), .string (⟨#[]⟩ : ByteArray), .string (⟨#[47]⟩ : ByteArray), .string (⟨#[]⟩ : ByteArray), .string (⟨#[64]⟩ : ByteArray), .string (⟨#[36]⟩ : ByteArray)]) (ok := fun _ => True) (okp := fun _ => True) ?hr ?hp (fun _ hk => hk) trivial (Below.refl _ _) (Nat.le_refl _) (by simp) ?_; (case hd => rfl); (case hg => rfl); (case hr => exact Z18); (case hp => exact (Reps.one (show Kd.M Kd.string _ _ _ (⟨#[]⟩ : ByteArray) [.string (⟨#[]⟩ : ByteArray)] from rfl) (Reps.one (show Kd.M Kd.string _ _ _ (⟨#[]⟩ : ByteArray) [.string (⟨#[]⟩ : ByteArray)] from rfl) (Reps.one (show Kd.M Kd.string _ _ _ (⟨#[]⟩ : ByteArray) [.string (⟨#[]⟩ : ByteArray)] from rfl) (Reps.one (show Kd.M Kd.string _ _ _ (⟨#[46]⟩ : ByteArray) [.string (⟨#[46]⟩ : ByteArray)] from rfl) (Reps.one (show Kd.M Kd.string _ _ _ (⟨#[37]⟩ : ByteArray) [.string (⟨#[37]⟩ : ByteArray)] from rfl) (Reps.one (show Kd.M Kd.string _ _ _ (⟨#[]⟩ : ByteArray) [.string (⟨#[]⟩ : ByteArray)] from rfl) (Reps.one (show Kd.M Kd.string _ _ _ (⟨#[47]⟩ : ByteArray) [.string (⟨#[47]⟩ : ByteArray)] from rfl) (Reps.one (show Kd.M Kd.string _ _ _ (⟨#[]⟩ : ByteArray) [.string (⟨#[]⟩ : ByteArray)] from rfl) (Reps.one (show Kd.M Kd.string _ _ _ (⟨#[64]⟩ : ByteArray) [.string (⟨#[64]⟩ : ByteArray)] from rfl) (Reps.one (show Kd.M Kd.string _ _ _ (⟨#[36]⟩ : ByteArray) [.string (⟨#[36]⟩ : ByteArray)] from rfl) (Reps.none _ _)))))))))))); intro v229 w38 ho39 hb hg_ hnew_; clear hg_ hnew_; (first | rw [← Ny228.out] at ho39 | (simp only [Int.reduceToNat] at ho39; rw [← Ny228.out] at ho39)); have n0_ := Aside0.mk (Kd.R_lower ho39 (below_size (by repeat (first | (with_reducible first | exact HB.out | apply below_alloc | apply pw_below_drewN | apply below_drew1 | refine below_set ?_ GE227.out) | exact HB.out)))); have n1_ := Aside0.mk (blk_below (g := gb227) (o := .cells #[.int .i64 a0_0, .string a0_1] 98 (0, 0)) (by (with_reducible repeat (first | refine blk_drewN ?_ _ | refine blk_drew ?_ | refine blk_alloc ?_ _)); exact BK227.out) hb); have n2_ := Aside0.mk (below_step (by repeat (first | (with_reducible first | exact HB.out | apply below_alloc | apply pw_below_drewN | apply below_drew1 | refine below_set ?_ GE227.out) | exact HB.out)) hb); clear BK227; clear HB; have HO230 := n0_; have BK227 := n1_; have HB := n2_; clear n0_ n1_ n2_; clear hb ho39; have hcz40_0 : w38.cell? ⟨gb227, 0, none⟩ = some (.int .i64 a0_0) := (blk_cell BK227.out 0).trans rfl; have hcz40_1 : w38.cell? ⟨gb227, 1, none⟩ = some (.string a0_1) := (blk_cell BK227.out 1).trans rfl; have hfz40_0 := blk_frozen BK227.out 0; have hfz40_1 := blk_frozen BK227.out 1; obtain ⟨Ao41, co41, eo41⟩ := Kd.R_slice HO230.out; subst eo41; have p231 : 0 ≤ (a0_0 : Int) := of_decide_eq_true Z6; have q231 : a0_0 < (y228.length : Int) := of_decide_eq_true Z6; obtain ⟨ad231, e231, hx231_0⟩ := Kd.at_string (Kd.R_reads' HO230.out).2.2 a0_0 p231 q231; cases e231; replace p231 := eq_true p231; replace q231 := eq_true q231))
       go_ret
       exact Z14
      ·rw [if_neg c35] at H
       exact Z33
     ·rw [if_neg c34] at H
      exact Z33
end Go.Proofs.YtmbhjogohfcjgaaDoor.P
namespace Go.Proofs.YtmbhjogohfcjgaaDoor.P
open Go.RowKit Go.Proofs.YtmbhjogohfcjgaaDoorW.PrintWords Go.Proofs.YtmbhjogohfcjgaaDoorW.PrintLast Go.Proofs.YtmbhjogohfcjgaaDoorW.PrintMore
attribute [local go_sem] max2_int min2_int max_two min_two max_three min_three max_four min_four   -- for this text's walks alone
set_option linter.unusedVariables false
set_option linter.unusedSimpArgs false
mutual
def tabardref13_Print.l0 : Nat → List (S66) → ByteArray → Int → Option (ByteArray)
 | 0, _, _, _ => none
 | k + 1, x0, x4, x5 => if x5 < (x0.length : Int) then (if x5 > 0 then (if x4.size + 1 ≤ 9223372036854775807 then (tabardref13_Print.j1 k x0 (x4 ++ (⟨#[59]⟩ : ByteArray)) x5) else (none)) else (tabardref13_Print.j1 k x0 x4 x5)) else (some x4)
def tabardref13_Print.j1 : Nat → List (S66) → ByteArray → Int → Option (ByteArray)
 | 0, _, _, _ => none
 | k + 1, x0, x4, x5 => if 0 ≤ x5 then (if x5 < (x0.length : Int) then ((tabardref13_WholeEnd.f k ((rd_T66 x0 x5).f0)).bind fun t234 => (tabardref13_Print.l1 k x0 x4 x5 ((rd_T66 x0 x5).f0) t234 (-1) 0)) else (none)) else (none)
def tabardref13_Print.l1 : Nat → List (S66) → ByteArray → Int → List (S98) → Int → Int → Int → Option (ByteArray)
 | 0, _, _, _, _, _, _, _ => none
 | k + 1, x0, x4, x5, x6, x7, x8, x9 => if x9 < x7 then (if 0 ≤ x9 then (if x9 < (x6.length : Int) then (if ((rd_T98 x6 x9).f0) = 2 then (tabardref13_Print.l1 k x0 x4 x5 x6 x7 x9 (wrap64 (x9 + 1))) else (tabardref13_Print.l1 k x0 x4 x5 x6 x7 x8 (wrap64 (x9 + 1)))) else (none)) else (none)) else (tabardref13_Print.l2 k x0 x4 x5 x6 x7 x8 false 0)
def tabardref13_Print.l2 : Nat → List (S66) → ByteArray → Int → List (S98) → Int → Int → Bool → Int → Option (ByteArray)
 | 0, _, _, _, _, _, _, _, _ => none
 | k + 1, x0, x4, x5, x6, x7, x8, x10, x11 => if x11 < (x6.length : Int) then (if 0 ≤ x11 then ((tabardref13_sign.f ((rd_T98 x6 x11).f0) ((rd_T98 x6 x11).f1)).bind fun t237 => (if x4.size + t237.size ≤ 9223372036854775807 then (if 0 ≤ x5 then (if x5 < (x0.length : Int) then (if (rd_T66 x0 x5).f1 = true then (if x10 = true then (tabardref13_Print.j4 k x0 (x4 ++ t237) x5 x6 x7 x8 x10 x11 false) else (if (wrap64 (x11 + 1)) < x7 then (if ((rd_T98 x6 x11).f0) = 2 then (if 0 ≤ (wrap64 (x11 + 1)) then (if (wrap64 (x11 + 1)) < (x6.length : Int) then (tabardref13_Print.j4 k x0 (x4 ++ t237) x5 x6 x7 x8 x10 x11 (((rd_T98 x6 (wrap64 (x11 + 1))).f0) == 2)) else (none)) else (none)) else (tabardref13_Print.j4 k x0 (x4 ++ t237) x5 x6 x7 x8 x10 x11 false)) else (tabardref13_Print.j4 k x0 (x4 ++ t237) x5 x6 x7 x8 x10 x11 false))) else (tabardref13_Print.j4 k x0 (x4 ++ t237) x5 x6 x7 x8 x10 x11 false)) else (none)) else (none)) else (none))) else (none)) else (tabardref13_Print.l0 k x0 x4 (wrap64 (x5 + 1)))
def tabardref13_Print.j4 : Nat → List (S66) → ByteArray → Int → List (S98) → Int → Int → Bool → Int → Bool → Option (ByteArray)
 | 0, _, _, _, _, _, _, _, _, _ => none
 | k + 1, x0, x4, x5, x6, x7, x8, x10, x11, x90 => if x90 = true then (if x4.size + 1 ≤ 9223372036854775807 then (tabardref13_Print.j5 k x0 (x4 ++ (⟨#[44]⟩ : ByteArray)) x5 x6 x7 x8 true x11) else (none)) else (tabardref13_Print.j5 k x0 x4 x5 x6 x7 x8 x10 x11)
def tabardref13_Print.j5 : Nat → List (S66) → ByteArray → Int → List (S98) → Int → Int → Bool → Int → Option (ByteArray)
 | 0, _, _, _, _, _, _, _, _ => none
 | k + 1, x0, x4, x5, x6, x7, x8, x10, x11 => tabardref13_Print.l3 k x0 x4 x5 x6 x7 x8 x10 x11 0
def tabardref13_Print.l3 : Nat → List (S66) → ByteArray → Int → List (S98) → Int → Int → Bool → Int → Int → Option (ByteArray)
 | 0, _, _, _, _, _, _, _, _, _ => none
 | k + 1, x0, x4, x5, x6, x7, x8, x10, x11, x12 => if x11 = x8 then (if 0 ≤ x5 then (if x5 < (x0.length : Int) then (if x12 < ((rd_T66 x0 x5).f2) then (if x4.size + 1 ≤ 9223372036854775807 then (tabardref13_Print.l3 k x0 (x4 ++ (⟨#[44]⟩ : ByteArray)) x5 x6 x7 x8 x10 x11 (wrap64 (x12 + 1))) else (none)) else (tabardref13_Print.l2 k x0 x4 x5 x6 x7 x8 x10 (wrap64 (x11 + 1)))) else (none)) else (none)) else (tabardref13_Print.l2 k x0 x4 x5 x6 x7 x8 x10 (wrap64 (x11 + 1)))
end
def tabardref13_Print.f (k : Nat) (l0 : List (S66)) : Option (ByteArray) := (tabardref13_Right.f k l0).bind fun t232 => (if t232 = true then (tabardref13_Print.l0 k l0 (⟨#[]⟩ : ByteArray) 0) else (some (⟨#[]⟩ : ByteArray)))
theorem tabardref13_Print.mono_l : ∀ k, (∀ y0 y1 y2, LeO (tabardref13_Print.l0 k y0 y1 y2) (tabardref13_Print.l0 (k + 1) y0 y1 y2)) ∧ (∀ y0 y1 y2, LeO (tabardref13_Print.j1 k y0 y1 y2) (tabardref13_Print.j1 (k + 1) y0 y1 y2)) ∧ (∀ y0 y1 y2 y3 y4 y5 y6, LeO (tabardref13_Print.l1 k y0 y1 y2 y3 y4 y5 y6) (tabardref13_Print.l1 (k + 1) y0 y1 y2 y3 y4 y5 y6)) ∧ (∀ y0 y1 y2 y3 y4 y5 y6 y7, LeO (tabardref13_Print.l2 k y0 y1 y2 y3 y4 y5 y6 y7) (tabardref13_Print.l2 (k + 1) y0 y1 y2 y3 y4 y5 y6 y7)) ∧ (∀ y0 y1 y2 y3 y4 y5 y6 y7 y8, LeO (tabardref13_Print.j4 k y0 y1 y2 y3 y4 y5 y6 y7 y8) (tabardref13_Print.j4 (k + 1) y0 y1 y2 y3 y4 y5 y6 y7 y8)) ∧ (∀ y0 y1 y2 y3 y4 y5 y6 y7, LeO (tabardref13_Print.j5 k y0 y1 y2 y3 y4 y5 y6 y7) (tabardref13_Print.j5 (k + 1) y0 y1 y2 y3 y4 y5 y6 y7)) ∧ (∀ y0 y1 y2 y3 y4 y5 y6 y7 y8, LeO (tabardref13_Print.l3 k y0 y1 y2 y3 y4 y5 y6 y7 y8) (tabardref13_Print.l3 (k + 1) y0 y1 y2 y3 y4 y5 y6 y7 y8))
 | 0 => ⟨fun _ _ _ r h => by simp [tabardref13_Print.l0] at h, fun _ _ _ r h => by simp [tabardref13_Print.j1] at h, fun _ _ _ _ _ _ _ r h => by simp [tabardref13_Print.l1] at h, fun _ _ _ _ _ _ _ _ r h => by simp [tabardref13_Print.l2] at h, fun _ _ _ _ _ _ _ _ _ r h => by simp [tabardref13_Print.j4] at h, fun _ _ _ _ _ _ _ _ r h => by simp [tabardref13_Print.j5] at h, fun _ _ _ _ _ _ _ _ _ r h => by simp [tabardref13_Print.l3] at h⟩
 | k + 1 => by
  obtain ⟨ih0, ih1, ih2, ih3, ih4, ih5, ih6⟩ := tabardref13_Print.mono_l k
  refine ⟨?_, ?_, ?_, ?_, ?_, ?_, ?_⟩
  ·intro y0 y1 y2
   unfold tabardref13_Print.l0
   repeat' first
   | (with_reducible exact ih0 _ _ _)
   | (with_reducible exact ih1 _ _ _)
   | (with_reducible exact ih2 _ _ _ _ _ _ _)
   | (with_reducible exact ih3 _ _ _ _ _ _ _ _)
   | (with_reducible exact ih4 _ _ _ _ _ _ _ _ _)
   | (with_reducible exact ih5 _ _ _ _ _ _ _ _)
   | (with_reducible exact ih6 _ _ _ _ _ _ _ _ _)
   | (with_reducible exact tabardref13_Right.mono _ _)
   | (with_reducible exact tabardref13_WholeEnd.mono _ _)
   | (with_reducible exact LeO.refl _)
   | (with_reducible exact LeO.none _)
   | (with_reducible refine LeO.ite ?_ ?_)
   | (with_reducible refine LeO.bind ?_ (fun _ => ?_))
   | exact ih0 _ _ _
   | exact ih1 _ _ _
   | exact ih2 _ _ _ _ _ _ _
   | exact ih3 _ _ _ _ _ _ _ _
   | exact ih4 _ _ _ _ _ _ _ _ _
   | exact ih5 _ _ _ _ _ _ _ _
   | exact ih6 _ _ _ _ _ _ _ _ _
   | exact tabardref13_Right.mono _ _
   | exact tabardref13_WholeEnd.mono _ _
   | exact LeO.none _
   | refine LeO.ite ?_ ?_
   | refine LeO.bind ?_ (fun _ => ?_)
  ·intro y0 y1 y2
   unfold tabardref13_Print.j1
   repeat' first
   | (with_reducible exact ih0 _ _ _)
   | (with_reducible exact ih1 _ _ _)
   | (with_reducible exact ih2 _ _ _ _ _ _ _)
   | (with_reducible exact ih3 _ _ _ _ _ _ _ _)
   | (with_reducible exact ih4 _ _ _ _ _ _ _ _ _)
   | (with_reducible exact ih5 _ _ _ _ _ _ _ _)
   | (with_reducible exact ih6 _ _ _ _ _ _ _ _ _)
   | (with_reducible exact tabardref13_Right.mono _ _)
   | (with_reducible exact tabardref13_WholeEnd.mono _ _)
   | (with_reducible exact LeO.refl _)
   | (with_reducible exact LeO.none _)
   | (with_reducible refine LeO.ite ?_ ?_)
   | (with_reducible refine LeO.bind ?_ (fun _ => ?_))
   | exact ih0 _ _ _
   | exact ih1 _ _ _
   | exact ih2 _ _ _ _ _ _ _
   | exact ih3 _ _ _ _ _ _ _ _
   | exact ih4 _ _ _ _ _ _ _ _ _
   | exact ih5 _ _ _ _ _ _ _ _
   | exact ih6 _ _ _ _ _ _ _ _ _
   | exact tabardref13_Right.mono _ _
   | exact tabardref13_WholeEnd.mono _ _
   | exact LeO.none _
   | refine LeO.ite ?_ ?_
   | refine LeO.bind ?_ (fun _ => ?_)
  ·intro y0 y1 y2 y3 y4 y5 y6
   unfold tabardref13_Print.l1
   repeat' first
   | (with_reducible exact ih0 _ _ _)
   | (with_reducible exact ih1 _ _ _)
   | (with_reducible exact ih2 _ _ _ _ _ _ _)
   | (with_reducible exact ih3 _ _ _ _ _ _ _ _)
   | (with_reducible exact ih4 _ _ _ _ _ _ _ _ _)
   | (with_reducible exact ih5 _ _ _ _ _ _ _ _)
   | (with_reducible exact ih6 _ _ _ _ _ _ _ _ _)
   | (with_reducible exact tabardref13_Right.mono _ _)
   | (with_reducible exact tabardref13_WholeEnd.mono _ _)
   | (with_reducible exact LeO.refl _)
   | (with_reducible exact LeO.none _)
   | (with_reducible refine LeO.ite ?_ ?_)
   | (with_reducible refine LeO.bind ?_ (fun _ => ?_))
   | exact ih0 _ _ _
   | exact ih1 _ _ _
   | exact ih2 _ _ _ _ _ _ _
   | exact ih3 _ _ _ _ _ _ _ _
   | exact ih4 _ _ _ _ _ _ _ _ _
   | exact ih5 _ _ _ _ _ _ _ _
   | exact ih6 _ _ _ _ _ _ _ _ _
   | exact tabardref13_Right.mono _ _
   | exact tabardref13_WholeEnd.mono _ _
   | exact LeO.none _
   | refine LeO.ite ?_ ?_
   | refine LeO.bind ?_ (fun _ => ?_)
  ·intro y0 y1 y2 y3 y4 y5 y6 y7
   unfold tabardref13_Print.l2
   repeat' first
   | (with_reducible exact ih0 _ _ _)
   | (with_reducible exact ih1 _ _ _)
   | (with_reducible exact ih2 _ _ _ _ _ _ _)
   | (with_reducible exact ih3 _ _ _ _ _ _ _ _)
   | (with_reducible exact ih4 _ _ _ _ _ _ _ _ _)
   | (with_reducible exact ih5 _ _ _ _ _ _ _ _)
   | (with_reducible exact ih6 _ _ _ _ _ _ _ _ _)
   | (with_reducible exact tabardref13_Right.mono _ _)
   | (with_reducible exact tabardref13_WholeEnd.mono _ _)
   | (with_reducible exact LeO.refl _)
   | (with_reducible exact LeO.none _)
   | (with_reducible refine LeO.ite ?_ ?_)
   | (with_reducible refine LeO.bind ?_ (fun _ => ?_))
   | exact ih0 _ _ _
   | exact ih1 _ _ _
   | exact ih2 _ _ _ _ _ _ _
   | exact ih3 _ _ _ _ _ _ _ _
   | exact ih4 _ _ _ _ _ _ _ _ _
   | exact ih5 _ _ _ _ _ _ _ _
   | exact ih6 _ _ _ _ _ _ _ _ _
   | exact tabardref13_Right.mono _ _
   | exact tabardref13_WholeEnd.mono _ _
   | exact LeO.none _
   | refine LeO.ite ?_ ?_
   | refine LeO.bind ?_ (fun _ => ?_)
  ·intro y0 y1 y2 y3 y4 y5 y6 y7 y8
   unfold tabardref13_Print.j4
   repeat' first
   | (with_reducible exact ih0 _ _ _)
   | (with_reducible exact ih1 _ _ _)
   | (with_reducible exact ih2 _ _ _ _ _ _ _)
   | (with_reducible exact ih3 _ _ _ _ _ _ _ _)
   | (with_reducible exact ih4 _ _ _ _ _ _ _ _ _)
   | (with_reducible exact ih5 _ _ _ _ _ _ _ _)
   | (with_reducible exact ih6 _ _ _ _ _ _ _ _ _)
   | (with_reducible exact tabardref13_Right.mono _ _)
   | (with_reducible exact tabardref13_WholeEnd.mono _ _)
   | (with_reducible exact LeO.refl _)
   | (with_reducible exact LeO.none _)
   | (with_reducible refine LeO.ite ?_ ?_)
   | (with_reducible refine LeO.bind ?_ (fun _ => ?_))
   | exact ih0 _ _ _
   | exact ih1 _ _ _
   | exact ih2 _ _ _ _ _ _ _
   | exact ih3 _ _ _ _ _ _ _ _
   | exact ih4 _ _ _ _ _ _ _ _ _
   | exact ih5 _ _ _ _ _ _ _ _
   | exact ih6 _ _ _ _ _ _ _ _ _
   | exact tabardref13_Right.mono _ _
   | exact tabardref13_WholeEnd.mono _ _
   | exact LeO.none _
   | refine LeO.ite ?_ ?_
   | refine LeO.bind ?_ (fun _ => ?_)
  ·intro y0 y1 y2 y3 y4 y5 y6 y7
   unfold tabardref13_Print.j5
   repeat' first
   | (with_reducible exact ih0 _ _ _)
   | (with_reducible exact ih1 _ _ _)
   | (with_reducible exact ih2 _ _ _ _ _ _ _)
   | (with_reducible exact ih3 _ _ _ _ _ _ _ _)
   | (with_reducible exact ih4 _ _ _ _ _ _ _ _ _)
   | (with_reducible exact ih5 _ _ _ _ _ _ _ _)
   | (with_reducible exact ih6 _ _ _ _ _ _ _ _ _)
   | (with_reducible exact tabardref13_Right.mono _ _)
   | (with_reducible exact tabardref13_WholeEnd.mono _ _)
   | (with_reducible exact LeO.refl _)
   | (with_reducible exact LeO.none _)
   | (with_reducible refine LeO.ite ?_ ?_)
   | (with_reducible refine LeO.bind ?_ (fun _ => ?_))
   | exact ih0 _ _ _
   | exact ih1 _ _ _
   | exact ih2 _ _ _ _ _ _ _
   | exact ih3 _ _ _ _ _ _ _ _
   | exact ih4 _ _ _ _ _ _ _ _ _
   | exact ih5 _ _ _ _ _ _ _ _
   | exact ih6 _ _ _ _ _ _ _ _ _
   | exact tabardref13_Right.mono _ _
   | exact tabardref13_WholeEnd.mono _ _
   | exact LeO.none _
   | refine LeO.ite ?_ ?_
   | refine LeO.bind ?_ (fun _ => ?_)
  ·intro y0 y1 y2 y3 y4 y5 y6 y7 y8
   unfold tabardref13_Print.l3
   repeat' first
   | (with_reducible exact ih0 _ _ _)
   | (with_reducible exact ih1 _ _ _)
   | (with_reducible exact ih2 _ _ _ _ _ _ _)
   | (with_reducible exact ih3 _ _ _ _ _ _ _ _)
   | (with_reducible exact ih4 _ _ _ _ _ _ _ _ _)
   | (with_reducible exact ih5 _ _ _ _ _ _ _ _)
   | (with_reducible exact ih6 _ _ _ _ _ _ _ _ _)
   | (with_reducible exact tabardref13_Right.mono _ _)
   | (with_reducible exact tabardref13_WholeEnd.mono _ _)
   | (with_reducible exact LeO.refl _)
   | (with_reducible exact LeO.none _)
   | (with_reducible refine LeO.ite ?_ ?_)
   | (with_reducible refine LeO.bind ?_ (fun _ => ?_))
   | exact ih0 _ _ _
   | exact ih1 _ _ _
   | exact ih2 _ _ _ _ _ _ _
   | exact ih3 _ _ _ _ _ _ _ _
   | exact ih4 _ _ _ _ _ _ _ _ _
   | exact ih5 _ _ _ _ _ _ _ _
   | exact ih6 _ _ _ _ _ _ _ _ _
   | exact tabardref13_Right.mono _ _
   | exact tabardref13_WholeEnd.mono _ _
   | exact LeO.none _
   | refine LeO.ite ?_ ?_
   | refine LeO.bind ?_ (fun _ => ?_)
theorem tabardref13_Print.mono : ∀ a0 k, LeO (tabardref13_Print.f k a0) (tabardref13_Print.f (k + 1) a0) := by
 intro a0 k
 obtain ⟨ih0, ih1, ih2, ih3, ih4, ih5, ih6⟩ := tabardref13_Print.mono_l k
 unfold tabardref13_Print.f
 repeat' first
   | (with_reducible exact ih0 _ _ _)
   | (with_reducible exact ih1 _ _ _)
   | (with_reducible exact ih2 _ _ _ _ _ _ _)
   | (with_reducible exact ih3 _ _ _ _ _ _ _ _)
   | (with_reducible exact ih4 _ _ _ _ _ _ _ _ _)
   | (with_reducible exact ih5 _ _ _ _ _ _ _ _)
   | (with_reducible exact ih6 _ _ _ _ _ _ _ _ _)
   | (with_reducible exact tabardref13_Right.mono _ _)
   | (with_reducible exact tabardref13_WholeEnd.mono _ _)
   | (with_reducible exact LeO.refl _)
   | (with_reducible exact LeO.none _)
   | (with_reducible refine LeO.ite ?_ ?_)
   | (with_reducible refine LeO.bind ?_ (fun _ => ?_))
   | exact ih0 _ _ _
   | exact ih1 _ _ _
   | exact ih2 _ _ _ _ _ _ _
   | exact ih3 _ _ _ _ _ _ _ _
   | exact ih4 _ _ _ _ _ _ _ _ _
   | exact ih5 _ _ _ _ _ _ _ _
   | exact ih6 _ _ _ _ _ _ _ _ _
   | exact tabardref13_Right.mono _ _
   | exact tabardref13_WholeEnd.mono _ _
   | exact LeO.none _
   | refine LeO.ite ?_ ?_
   | refine LeO.bind ?_ (fun _ => ?_)
set_option maxHeartbeats 8000000 in
set_option maxRecDepth 100000 in
theorem tabardref13_Print.calls (k : Nat) (A0 : Option Addr) (c0 : Nat) (l0 : List (S66)) (r : ByteArray) (w : World) (hr0 : Kd.C k66 w A0 l0.length l0) (hc0 : l0.length ≤ c0) (h : tabardref13_Print.f k l0 = some r) :
  Calls Tryd.prog 36 #[.slice A0 l0.length c0] w fun e w' => e = .returned (.string r) ∧ Below w.heap.size w w' := by
 have hu98 := Tryd.underlying98
 have HR0 := Aside0.mk hr0
 have HC0 := Aside0.mk hc0
 clear hr0 hc0
 have HB := Aside0.mk (Below.refl w.heap.size w)
 have H : ((tabardref13_Right.f k l0).bind fun t232 => (if t232 = true then (tabardref13_Print.l0 k l0 (⟨#[]⟩ : ByteArray) 0) else (some (⟨#[]⟩ : ByteArray)))) = some r := h
 clear h
 replace H := Option.bind_eq_some_iff.mp H
 obtain ⟨t232, A20, H⟩ := H
 replace H : (if t232 = true then (tabardref13_Print.l0 k l0 (⟨#[]⟩ : ByteArray) 0) else (some (⟨#[]⟩ : ByteArray))) = some r := H
 have A2 := Aside0.mk A20
 clear A20
 by_cases c3 : t232 = true
 ·subst c3
  have H1 : (tabardref13_Print.l0 k l0 (⟨#[]⟩ : ByteArray) 0) = some r := by rw [if_pos rfl] at H; exact H
  clear H
  have H := H1
  clear H1
  have H' := Aside0.mk H
  clear H
  go_enter Tryd.func36, Tryd.ntmps36
  go_wp2_with (first | ((with_reducible refine gate_callee (f := 34) rfl ?_); refine goesL_ (some 14) rfl rfl Tryd.func34 (by kernel_rfl) rfl #[.slice A0 l0.length c0] rfl Z3 ?_; (with_reducible refine (tabardref13_Right.calls k _ _ l0 true _ ?side1 ?side2 A2.out).mono ?_); (case side1 => exact Z19); (case side2 => exact HC0.out); rintro e w4 ⟨rfl, hb⟩; refine ⟨_, rfl, ?_⟩; have n0_ := Aside0.mk (below_step Z2 hb); clear HB; have HB := n0_; clear n0_; (try clear hb); (try clear hb2); (try clear hk); (try clear hi)))
  go_loopg [4, 5] k (fun kq v4 v5 w' => ∃ (x4_1 : ByteArray) (x5_1 : Int), v4 = .string x4_1 ∧ v5 = .int .i64 x5_1 ∧ Aside0 (tabardref13_Print.l0 kq l0 x4_1 x5_1 = some r) ∧ Aside0 (kq ≤ k) ∧ Aside0 (Below w.heap.size w w'))
  case atStart => exact ⟨((⟨#[]⟩ : ByteArray)), (0), Z5, Z5, H', ⟨Nat.le_refl _⟩, ⟨by repeat (first | (with_reducible first | exact HB.out | apply below_alloc | apply pw_below_drewN | apply below_drew1) | exact HB.out)⟩⟩
  case round =>
   clear H'
   try clear p2
   try clear c3
   obtain ⟨x4_1, x5_1, rfl, rfl, HA, HK1, HB⟩ := hrel
   cases gk with
   | zero => exact absurd HA.out (by simp [tabardref13_Print.l0])
   | succ k1 =>
    have H := HA.out
    clear HA
    simp only [tabardref13_Print.l0] at H
    by_cases c5 : x5_1 < (l0.length : Int)
    ·rw [if_pos c5] at H
     have c5b0 : decide (x5_1 < (l0.length : Int)) = true := decide_eq_true c5
     clear c5
     have HC6 := Aside0.mk H
     clear H
     go_upto_if 24 with (fail)
     go_cut [4] (fun v4 wc => ∃ (kq : Nat) (x4_5 : ByteArray), v4 = .string x4_5 ∧ Aside0 (tabardref13_Print.j1 kq l0 x4_5 x5_1 = some r) ∧ Aside0 (kq ≤ k1) ∧ Aside0 (Below w.heap.size w wc))
     case first =>
      have H := HC6.out
      clear HC6
      by_cases c7 : x5_1 > 0
      ·rw [if_pos c7] at H
       have c7b0 : decide (0 < x5_1) = true := decide_eq_true c7
       clear c7
       (first | rw [c7b0] | (simp only [i64_w, i32_w]; rw [c7b0]) | skip)
       by_cases c8 : x4_1.size + 1 ≤ 9223372036854775807
       ·rw [if_pos c8] at H
        have c8b0 := eq_true c8
        have c8b1 : decide (x4_1.size + 1 ≤ 9223372036854775807) = true := decide_eq_true c8
        try have c8b2 : (9223372036854775807 < x4_1.size + 1) = False := eq_false (Nat.not_lt.2 c8)
        have H' := Aside0.mk H
        clear H
        go_wp2
        go_meet
        case rel => exact ⟨_, (x4_1 ++ (⟨#[59]⟩ : ByteArray)), Z5, H', ⟨by have := HK1.out; first | omega | exact Nat.le_refl _⟩, ⟨by repeat (first | (with_reducible first | exact HB.out | apply below_alloc | apply pw_below_drewN | apply below_drew1) | exact HB.out)⟩⟩
       ·rw [if_neg c8] at H
        exact Z33
      ·rw [if_neg c7] at H
       have c7b0 : decide (0 < x5_1) = false := decide_eq_false c7
       clear c7
       (first | rw [c7b0] | (simp only [i64_w, i32_w]; rw [c7b0]) | skip)
       have H' := Aside0.mk H
       clear H
       go_wp2
       go_meet
       case rel => exact ⟨_, (x4_1), Z5, H', ⟨by have := HK1.out; first | omega | exact Nat.le_refl _⟩, ⟨by repeat (first | (with_reducible first | exact HB.out | apply below_alloc | apply pw_below_drewN | apply below_drew1) | exact HB.out)⟩⟩
     case rest =>
      clear HC6
      try clear p2
      try clear c3
      try clear c5
      try clear c5b0
      try clear c7
      try clear c7b0
      try clear c8
      try clear c8b0
      try clear c8b1
      try clear c8b2
      try clear p2
      obtain ⟨kq, x4_5, rfl, HA, HJ5, HB⟩ := hcut
      cases kq with
      | zero => exact absurd HA.out (by simp [tabardref13_Print.j1])
      | succ kj5 =>
       have H := HA.out
       clear HA
       simp only [tabardref13_Print.j1] at H
       by_cases c9 : 0 ≤ x5_1
       ·rw [if_pos c9] at H
        have c9b0 : decide (0 ≤ x5_1) = true := decide_eq_true c9
        clear c9
        by_cases c10 : x5_1 < (l0.length : Int)
        ·rw [if_pos c10] at H
         have c10b0 : decide (x5_1 < (l0.length : Int)) = true := decide_eq_true c10
         clear c10
         replace H := Option.bind_eq_some_iff.mp H
         obtain ⟨t234, A110, H⟩ := H
         replace H : (tabardref13_Print.l1 kj5 l0 x4_5 x5_1 ((rd_T66 l0 x5_1).f0) t234 (-1) 0) = some r := H
         have A11 := Aside0.mk A110
         clear A110
         have H' := Aside0.mk H
         clear H
         have p233 : 0 ≤ (x5_1 : Int) := of_decide_eq_true Z6
         have q233 : x5_1 < (l0.length : Int) := of_decide_eq_true Z6
         obtain ⟨ad233, A233_0, c233_0, e233, hx233_0, hx233_1, hx233_2, hl233_0, hi233_0⟩ := at_T66 HR0.out x5_1 p233 q233
         cases e233
         replace hx233_0 := (HB.out.cell (World.block_lt_of_cell? w _ hx233_0)).trans hx233_0
         replace hx233_1 := (HB.out.cell (World.block_lt_of_cell? w _ hx233_1)).trans hx233_1
         replace hx233_2 := (HB.out.cell (World.block_lt_of_cell? w _ hx233_2)).trans hx233_2
         have HR233_0 := Aside0.mk hi233_0
         have HC233_0 := Aside0.mk hl233_0
         clear hi233_0 hl233_0
         replace p233 := eq_true p233
         replace q233 := eq_true q233
         go_wp2_with (first | ((with_reducible refine gate_callee (f := 64) rfl ?_); refine goesL_ (some 33) rfl rfl Tryd.func64 (by kernel_rfl) rfl #[.slice A233_0 ((rd_T66 l0 x5_1).f0).length c233_0] rfl Z3 ?_; (with_reducible refine (tabardref13_WholeEnd.calls kj5 _ _ ((rd_T66 l0 x5_1).f0) t234 _ ?side1 ?side2 A11.out).mono ?_); (case side1 => repeat (first | exact (Kd.C_below HR233_0.out HB.out) | (with_reducible refine Kd.C_alloc ?_ _) | (with_reducible refine Kd.C_drewN ?_ _) | (with_reducible refine Kd.C_drew ?_))); (case side2 => exact HC233_0.out); rintro e w12 ⟨rfl, hb⟩; refine ⟨_, rfl, ?_⟩; have n0_ := Aside0.mk (below_step Z2 hb); clear HB; have HB := n0_; clear n0_; (try clear hb); (try clear hb2); (try clear hk); (try clear hi)))
         go_loopg [8, 9] kj5 (fun kq v8 v9 w' => ∃ (x8_3 : Int) (x9_3 : Int), v8 = .int .i64 x8_3 ∧ v9 = .int .i64 x9_3 ∧ Aside0 (tabardref13_Print.l1 kq l0 x4_5 x5_1 ((rd_T66 l0 x5_1).f0) t234 x8_3 x9_3 = some r) ∧ Aside0 (kq ≤ kj5) ∧ Aside0 (Below w.heap.size w w'))
         case atStart => exact ⟨((-1)), (0), Z5, Z5, H', ⟨Nat.le_refl _⟩, ⟨by repeat (first | (with_reducible first | exact HB.out | apply below_alloc | apply pw_below_drewN | apply below_drew1) | exact HB.out)⟩⟩
         case round =>
          clear H'
          try clear c1
          try clear c2
          try clear p2
          try clear q2
          try clear hx2
          try clear c3
          try clear c5
          try clear c5b0
          try clear c6
          try clear c7
          try clear c7b0
          try clear c8
          try clear c8b0
          try clear c8b1
          try clear c8b2
          try clear c9
          try clear c9b0
          try clear c10
          try clear c10b0
          try clear hx233_0
          try clear hx233_1
          try clear hx233_2
          try clear p2
          try clear p233
          try clear q233
          obtain ⟨x8_3, x9_3, rfl, rfl, HA, HK3, HB⟩ := hrel
          cases gk with
          | zero => exact absurd HA.out (by simp [tabardref13_Print.l1])
          | succ k3 =>
           have H := HA.out
           clear HA
           simp only [tabardref13_Print.l1] at H
           by_cases c13 : x9_3 < t234
           ·rw [if_pos c13] at H
            have c13b0 : decide (x9_3 < t234) = true := decide_eq_true c13
            clear c13
            by_cases c14 : 0 ≤ x9_3
            ·rw [if_pos c14] at H
             have c14b0 : decide (0 ≤ x9_3) = true := decide_eq_true c14
             clear c14
             by_cases c15 : x9_3 < (((rd_T66 l0 x5_1).f0).length : Int)
             ·rw [if_pos c15] at H
              have c15b0 : decide (x9_3 < (((rd_T66 l0 x5_1).f0).length : Int)) = true := decide_eq_true c15
              clear c15
              by_cases c16 : ((rd_T98 ((rd_T66 l0 x5_1).f0) x9_3).f0) = 2
              ·rw [if_pos c16] at H
               have c16b0 : (((rd_T98 ((rd_T66 l0 x5_1).f0) x9_3).f0) == 2) = true := beq_iff_eq.mpr c16
               have c16b1 : (((rd_T98 ((rd_T66 l0 x5_1).f0) x9_3).f0) != 2) = false := bne_eq_false_iff_eq.mpr c16
               clear c16
               have H' := Aside0.mk H
               clear H
               have p235 : 0 ≤ (x9_3 : Int) := of_decide_eq_true Z6
               have q235 : x9_3 < (((rd_T66 l0 x5_1).f0).length : Int) := of_decide_eq_true Z6
               obtain ⟨ad235, e235, hx235_0, hx235_1⟩ := at_T98 HR233_0.out x9_3 p235 q235
               cases e235
               replace hx235_0 := (HB.out.cell (World.block_lt_of_cell? w _ hx235_0)).trans hx235_0
               replace hx235_1 := (HB.out.cell (World.block_lt_of_cell? w _ hx235_1)).trans hx235_1
               replace p235 := eq_true p235
               replace q235 := eq_true q235
               go_wp2
               go_roundg k3
               case measure => have := HK1.out; have := HJ5.out; have := HK3.out; omega
               case rel => exact ⟨(x9_3), (wrap64 (x9_3 + 1)), Z5, Z5, H', ⟨by have := HK1.out; have := HJ5.out; have := HK3.out; omega⟩, ⟨by repeat (first | (with_reducible first | exact HB.out | apply below_alloc | apply pw_below_drewN | apply below_drew1) | exact HB.out)⟩⟩
              ·rw [if_neg c16] at H
               have c16b0 : (((rd_T98 ((rd_T66 l0 x5_1).f0) x9_3).f0) == 2) = false := beq_eq_false_iff_ne.mpr c16
               have c16b1 : (((rd_T98 ((rd_T66 l0 x5_1).f0) x9_3).f0) != 2) = true := bne_iff_ne.mpr c16
               have H' := Aside0.mk H
               clear H
               have p235 : 0 ≤ (x9_3 : Int) := of_decide_eq_true Z6
               have q235 : x9_3 < (((rd_T66 l0 x5_1).f0).length : Int) := of_decide_eq_true Z6
               obtain ⟨ad235, e235, hx235_0, hx235_1⟩ := at_T98 HR233_0.out x9_3 p235 q235
               cases e235
               replace hx235_0 := (HB.out.cell (World.block_lt_of_cell? w _ hx235_0)).trans hx235_0
               replace hx235_1 := (HB.out.cell (World.block_lt_of_cell? w _ hx235_1)).trans hx235_1
               replace p235 := eq_true p235
               replace q235 := eq_true q235
               go_wp2
               go_roundg k3
               case measure => have := HK1.out; have := HJ5.out; have := HK3.out; omega
               case rel => exact ⟨(x8_3), (wrap64 (x9_3 + 1)), Z5, Z5, H', ⟨by have := HK1.out; have := HJ5.out; have := HK3.out; omega⟩, ⟨by repeat (first | (with_reducible first | exact HB.out | apply below_alloc | apply pw_below_drewN | apply below_drew1) | exact HB.out)⟩⟩
             ·rw [if_neg c15] at H
              exact Z33
            ·rw [if_neg c14] at H
             exact Z33
           ·rw [if_neg c13] at H
            have c13b0 : decide (x9_3 < t234) = false := decide_eq_false c13
            clear c13
            have H' := Aside0.mk H
            clear H
            go_wp2
            go_loopg [4, 10, 11] k3 (fun kq v4 v10 v11 w' => ∃ (x4_4 : ByteArray) (x10_4 : Bool) (x11_4 : Int), v4 = .string x4_4 ∧ v10 = .bool x10_4 ∧ v11 = .int .i64 x11_4 ∧ Aside0 (tabardref13_Print.l2 kq l0 x4_4 x5_1 ((rd_T66 l0 x5_1).f0) t234 x8_3 x10_4 x11_4 = some r) ∧ Aside0 (kq ≤ k3) ∧ Aside0 (Below w.heap.size w w'))
            case atStart => exact ⟨(x4_5), (false), (0), Z5, Z5, Z5, H', ⟨Nat.le_refl _⟩, ⟨by repeat (first | (with_reducible first | exact HB.out | apply below_alloc | apply pw_below_drewN | apply below_drew1) | exact HB.out)⟩⟩
            case round =>
             clear H'
             try clear c1
             try clear c2
             try clear p2
             try clear q2
             try clear hx2
             try clear c3
             try clear c5
             try clear c5b0
             try clear c6
             try clear p6
             try clear c7
             try clear c7b0
             try clear c8
             try clear c8b0
             try clear c8b1
             try clear c8b2
             try clear c9
             try clear c9b0
             try clear c10
             try clear c10b0
             try clear c13
             try clear c13b0
             try clear c14
             try clear c14b0
             try clear c15
             try clear c15b0
             try clear c16
             try clear c16b0
             try clear c16b1
             try clear hx233_0
             try clear hx233_1
             try clear hx233_2
             try clear hx235_0
             try clear hx235_1
             try clear p2
             try clear p233
             try clear p235
             try clear q2
             try clear q233
             try clear q235
             obtain ⟨x4_4, x10_4, x11_4, rfl, rfl, rfl, HA, HK4, HB⟩ := hrel
             cases gk with
             | zero => exact absurd HA.out (by simp [tabardref13_Print.l2])
             | succ k4 =>
              have H := HA.out
              clear HA
              simp only [tabardref13_Print.l2] at H
              by_cases c17 : x11_4 < (((rd_T66 l0 x5_1).f0).length : Int)
              ·rw [if_pos c17] at H
               have c17b0 : decide (x11_4 < (((rd_T66 l0 x5_1).f0).length : Int)) = true := decide_eq_true c17
               clear c17
               by_cases c18 : 0 ≤ x11_4
               ·rw [if_pos c18] at H
                have c18b0 : decide (0 ≤ x11_4) = true := decide_eq_true c18
                clear c18
                replace H := Option.bind_eq_some_iff.mp H
                obtain ⟨t237, A190, H⟩ := H
                replace H : (if x4_4.size + t237.size ≤ 9223372036854775807 then (if 0 ≤ x5_1 then (if x5_1 < (l0.length : Int) then (if (rd_T66 l0 x5_1).f1 = true then (if x10_4 = true then (tabardref13_Print.j4 k4 l0 (x4_4 ++ t237) x5_1 ((rd_T66 l0 x5_1).f0) t234 x8_3 x10_4 x11_4 false) else (if (wrap64 (x11_4 + 1)) < t234 then (if ((rd_T98 ((rd_T66 l0 x5_1).f0) x11_4).f0) = 2 then (if 0 ≤ (wrap64 (x11_4 + 1)) then (if (wrap64 (x11_4 + 1)) < (((rd_T66 l0 x5_1).f0).length : Int) then (tabardref13_Print.j4 k4 l0 (x4_4 ++ t237) x5_1 ((rd_T66 l0 x5_1).f0) t234 x8_3 x10_4 x11_4 (((rd_T98 ((rd_T66 l0 x5_1).f0) (wrap64 (x11_4 + 1))).f0) == 2)) else (none)) else (none)) else (tabardref13_Print.j4 k4 l0 (x4_4 ++ t237) x5_1 ((rd_T66 l0 x5_1).f0) t234 x8_3 x10_4 x11_4 false)) else (tabardref13_Print.j4 k4 l0 (x4_4 ++ t237) x5_1 ((rd_T66 l0 x5_1).f0) t234 x8_3 x10_4 x11_4 false))) else (tabardref13_Print.j4 k4 l0 (x4_4 ++ t237) x5_1 ((rd_T66 l0 x5_1).f0) t234 x8_3 x10_4 x11_4 false)) else (none)) else (none)) else (none)) = some r := H
                have A19 := Aside0.mk A190
                clear A190
                by_cases c20 : x4_4.size + t237.size ≤ 9223372036854775807
                ·rw [if_pos c20] at H
                 have c20b0 := eq_true c20
                 have c20b1 : decide (x4_4.size + t237.size ≤ 9223372036854775807) = true := decide_eq_true c20
                 try have c20b2 : (9223372036854775807 < x4_4.size + t237.size) = False := eq_false (Nat.not_lt.2 c20)
                 have HC21 := Aside0.mk H
                 clear H
                 have p236 : 0 ≤ (x11_4 : Int) := of_decide_eq_true Z6
                 have q236 : x11_4 < (((rd_T66 l0 x5_1).f0).length : Int) := of_decide_eq_true Z6
                 obtain ⟨ad236, e236, hx236_0, hx236_1⟩ := at_T98 HR233_0.out x11_4 p236 q236
                 cases e236
                 replace hx236_0 := (HB.out.cell (World.block_lt_of_cell? w _ hx236_0)).trans hx236_0
                 replace hx236_1 := (HB.out.cell (World.block_lt_of_cell? w _ hx236_1)).trans hx236_1
                 replace p236 := eq_true p236
                 replace q236 := eq_true q236
                 go_upto_region 23 with (first | ((with_reducible refine gate_callee (f := 65) rfl ?_); refine goesL_ (some 57) rfl rfl Tryd.func65 (by kernel_rfl) rfl #[.agg #[.int .i64 ((rd_T98 ((rd_T66 l0 x5_1).f0) x11_4).f0), .string ((rd_T98 ((rd_T66 l0 x5_1).f0) x11_4).f1)]] rfl Z3 ?_; (with_reducible refine (tabardref13_sign.calls ((rd_T98 ((rd_T66 l0 x5_1).f0) x11_4).f0) ((rd_T98 ((rd_T66 l0 x5_1).f0) x11_4).f1) t237 _ A19.out).mono ?_); rintro e w22 ⟨rfl, hb⟩; refine ⟨_, rfl, ?_⟩; have n0_ := Aside0.mk (below_step Z2 hb); clear HB; have HB := n0_; clear n0_; (try clear hb); (try clear hb2); (try clear hk); (try clear hi)))
                 (try simp only [Act.put, List.setIfInBounds_toArray, List.set_cons_zero, List.set_cons_succ])
                 go_cut [90] (fun v90 wc => ∃ (kq : Nat) (x90_20 : Bool), v90 = .bool x90_20 ∧ Aside0 (tabardref13_Print.j4 kq l0 (x4_4 ++ t237) x5_1 ((rd_T66 l0 x5_1).f0) t234 x8_3 x10_4 x11_4 x90_20 = some r) ∧ Aside0 (kq ≤ k4) ∧ Aside0 (Below w.heap.size w wc))
                 case first =>
                  have H := HC21.out
                  clear HC21
                  by_cases c23 : 0 ≤ x5_1
                  ·rw [if_pos c23] at H
                   have c23b0 : decide (0 ≤ x5_1) = true := decide_eq_true c23
                   clear c23
                   (first | rw [c23b0] | (simp only [i64_w, i32_w]; rw [c23b0]) | skip)
                   by_cases c24 : x5_1 < (l0.length : Int)
                   ·rw [if_pos c24] at H
                    have c24b0 : decide (x5_1 < (l0.length : Int)) = true := decide_eq_true c24
                    clear c24
                    obtain ⟨bq25, hbq25⟩ : ∃ b_ : Bool, b_ = ((rd_T66 l0 x5_1).f1) := ⟨_, rfl⟩
                    replace H : (if bq25 = true then (if x10_4 = true then (tabardref13_Print.j4 k4 l0 (x4_4 ++ t237) x5_1 ((rd_T66 l0 x5_1).f0) t234 x8_3 x10_4 x11_4 false) else (if (wrap64 (x11_4 + 1)) < t234 then (if ((rd_T98 ((rd_T66 l0 x5_1).f0) x11_4).f0) = 2 then (if 0 ≤ (wrap64 (x11_4 + 1)) then (if (wrap64 (x11_4 + 1)) < (((rd_T66 l0 x5_1).f0).length : Int) then (tabardref13_Print.j4 k4 l0 (x4_4 ++ t237) x5_1 ((rd_T66 l0 x5_1).f0) t234 x8_3 x10_4 x11_4 (((rd_T98 ((rd_T66 l0 x5_1).f0) (wrap64 (x11_4 + 1))).f0) == 2)) else (none)) else (none)) else (tabardref13_Print.j4 k4 l0 (x4_4 ++ t237) x5_1 ((rd_T66 l0 x5_1).f0) t234 x8_3 x10_4 x11_4 false)) else (tabardref13_Print.j4 k4 l0 (x4_4 ++ t237) x5_1 ((rd_T66 l0 x5_1).f0) t234 x8_3 x10_4 x11_4 false))) else (tabardref13_Print.j4 k4 l0 (x4_4 ++ t237) x5_1 ((rd_T66 l0 x5_1).f0) t234 x8_3 x10_4 x11_4 false)) = some r := by rw [← hbq25] at H; exact H
                    have Nbq25 := Aside0.mk hbq25
                    clear hbq25
                    by_cases c26 : bq25 = true
                    ·subst c26
                     have H1 : (if x10_4 = true then (tabardref13_Print.j4 k4 l0 (x4_4 ++ t237) x5_1 ((rd_T66 l0 x5_1).f0) t234 x8_3 x10_4 x11_4 false) else (if (wrap64 (x11_4 + 1)) < t234 then (if ((rd_T98 ((rd_T66 l0 x5_1).f0) x11_4).f0) = 2 then (if 0 ≤ (wrap64 (x11_4 + 1)) then (if (wrap64 (x11_4 + 1)) < (((rd_T66 l0 x5_1).f0).length : Int) then (tabardref13_Print.j4 k4 l0 (x4_4 ++ t237) x5_1 ((rd_T66 l0 x5_1).f0) t234 x8_3 x10_4 x11_4 (((rd_T98 ((rd_T66 l0 x5_1).f0) (wrap64 (x11_4 + 1))).f0) == 2)) else (none)) else (none)) else (tabardref13_Print.j4 k4 l0 (x4_4 ++ t237) x5_1 ((rd_T66 l0 x5_1).f0) t234 x8_3 x10_4 x11_4 false)) else (tabardref13_Print.j4 k4 l0 (x4_4 ++ t237) x5_1 ((rd_T66 l0 x5_1).f0) t234 x8_3 x10_4 x11_4 false))) = some r := by rw [if_pos rfl] at H; exact H
                     clear H
                     have H := H1
                     clear H1
                     by_cases c27 : x10_4 = true
                     ·subst c27
                      have H1 : (tabardref13_Print.j4 k4 l0 (x4_4 ++ t237) x5_1 ((rd_T66 l0 x5_1).f0) t234 x8_3 true x11_4 false) = some r := by rw [if_pos rfl] at H; exact H
                      clear H
                      have H := H1
                      clear H1
                      have H' := Aside0.mk H
                      clear H
                      have p238 : 0 ≤ (x5_1 : Int) := of_decide_eq_true Z6
                      have q238 : x5_1 < (l0.length : Int) := of_decide_eq_true Z6
                      obtain ⟨ad238, A238_0, c238_0, e238, hx238_0, hx238_1, hx238_2, hl238_0, hi238_0⟩ := at_T66 HR0.out x5_1 p238 q238
                      (try rw [← Nbq25.out] at hx238_1)
                      obtain rfl : ad233 = ad238 := (by injection e238)
                      replace hx238_0 := (HB.out.cell (World.block_lt_of_cell? w _ hx238_0)).trans hx238_0
                      replace hx238_1 := (HB.out.cell (World.block_lt_of_cell? w _ hx238_1)).trans hx238_1
                      replace hx238_2 := (HB.out.cell (World.block_lt_of_cell? w _ hx238_2)).trans hx238_2
                      have HR238_0 := Aside0.mk hi238_0
                      have HC238_0 := Aside0.mk hl238_0
                      clear hi238_0 hl238_0
                      replace p238 := eq_true p238
                      replace q238 := eq_true q238
                      go_wp2
                      go_meet
                      case rel => exact Z34
                     ·replace c27 := Bool.eq_false_iff.mpr c27
                      subst c27
                      have H1 : (if (wrap64 (x11_4 + 1)) < t234 then (if ((rd_T98 ((rd_T66 l0 x5_1).f0) x11_4).f0) = 2 then (if 0 ≤ (wrap64 (x11_4 + 1)) then (if (wrap64 (x11_4 + 1)) < (((rd_T66 l0 x5_1).f0).length : Int) then (tabardref13_Print.j4 k4 l0 (x4_4 ++ t237) x5_1 ((rd_T66 l0 x5_1).f0) t234 x8_3 false x11_4 (((rd_T98 ((rd_T66 l0 x5_1).f0) (wrap64 (x11_4 + 1))).f0) == 2)) else (none)) else (none)) else (tabardref13_Print.j4 k4 l0 (x4_4 ++ t237) x5_1 ((rd_T66 l0 x5_1).f0) t234 x8_3 false x11_4 false)) else (tabardref13_Print.j4 k4 l0 (x4_4 ++ t237) x5_1 ((rd_T66 l0 x5_1).f0) t234 x8_3 false x11_4 false)) = some r := by rw [if_neg (show ¬ (false = true) by decide)] at H; exact H
                      clear H
                      have H := H1
                      clear H1
                      by_cases c28 : (wrap64 (x11_4 + 1)) < t234
                      ·rw [if_pos c28] at H
                       have c28b0 : decide ((wrap64 (x11_4 + 1)) < t234) = true := decide_eq_true c28
                       clear c28
                       by_cases c29 : ((rd_T98 ((rd_T66 l0 x5_1).f0) x11_4).f0) = 2
                       ·rw [if_pos c29] at H
                        have c29b0 : (((rd_T98 ((rd_T66 l0 x5_1).f0) x11_4).f0) == 2) = true := beq_iff_eq.mpr c29
                        have c29b1 : (((rd_T98 ((rd_T66 l0 x5_1).f0) x11_4).f0) != 2) = false := bne_eq_false_iff_eq.mpr c29
                        clear c29
                        obtain ⟨ji30, hji30⟩ : ∃ j_ : Int, (wrap64 (x11_4 + 1)) = j_ := ⟨_, rfl⟩
                        replace H : (if 0 ≤ (ji30) then (if (ji30) < (((rd_T66 l0 x5_1).f0).length : Int) then (tabardref13_Print.j4 k4 l0 (x4_4 ++ t237) x5_1 ((rd_T66 l0 x5_1).f0) t234 x8_3 false x11_4 (((rd_T98 ((rd_T66 l0 x5_1).f0) (ji30)).f0) == 2)) else (none)) else (none)) = some r := by first | (rw [hji30] at H; exact H) | (simp only [hji30] at H ⊢; exact H)
                        (try rw [hji30] at c28b0)
                        have hji30w : (IntKind.i64.wrap (x11_4 + 1)) = ji30 := (i64_w _).trans hji30
                        by_cases c31 : 0 ≤ (ji30)
                        ·rw [if_pos c31] at H
                         have c31b0 : decide (0 ≤ (ji30)) = true := decide_eq_true c31
                         clear c31
                         by_cases c32 : (ji30) < (((rd_T66 l0 x5_1).f0).length : Int)
                         ·rw [if_pos c32] at H
                          have c32b0 : decide ((ji30) < (((rd_T66 l0 x5_1).f0).length : Int)) = true := decide_eq_true c32
                          clear c32
                          have H' := Aside0.mk H
                          clear H
                          have p238 : 0 ≤ (x5_1 : Int) := of_decide_eq_true Z6
                          have q238 : x5_1 < (l0.length : Int) := of_decide_eq_true Z6
                          obtain ⟨ad238, A238_0, c238_0, e238, hx238_0, hx238_1, hx238_2, hl238_0, hi238_0⟩ := at_T66 HR0.out x5_1 p238 q238
                          (try rw [← Nbq25.out] at hx238_1)
                          obtain rfl : ad233 = ad238 := (by injection e238)
                          replace hx238_0 := (HB.out.cell (World.block_lt_of_cell? w _ hx238_0)).trans hx238_0
                          replace hx238_1 := (HB.out.cell (World.block_lt_of_cell? w _ hx238_1)).trans hx238_1
                          replace hx238_2 := (HB.out.cell (World.block_lt_of_cell? w _ hx238_2)).trans hx238_2
                          have HR238_0 := Aside0.mk hi238_0
                          have HC238_0 := Aside0.mk hl238_0
                          clear hi238_0 hl238_0
                          replace p238 := eq_true p238
                          replace q238 := eq_true q238
                          have p239 : 0 ≤ (x11_4 : Int) := of_decide_eq_true Z6
                          have q239 : x11_4 < (((rd_T66 l0 x5_1).f0).length : Int) := of_decide_eq_true Z6
                          obtain ⟨ad239, e239, hx239_0, hx239_1⟩ := at_T98 HR233_0.out x11_4 p239 q239
                          obtain rfl : ad236 = ad239 := (by injection e239)
                          replace hx239_0 := (HB.out.cell (World.block_lt_of_cell? w _ hx239_0)).trans hx239_0
                          replace hx239_1 := (HB.out.cell (World.block_lt_of_cell? w _ hx239_1)).trans hx239_1
                          replace p239 := eq_true p239
                          replace q239 := eq_true q239
                          have p240 : 0 ≤ ((ji30) : Int) := of_decide_eq_true Z6
                          have q240 : (ji30) < (((rd_T66 l0 x5_1).f0).length : Int) := of_decide_eq_true Z6
                          obtain ⟨ad240, e240, hx240_0, hx240_1⟩ := at_T98 HR233_0.out (ji30) p240 q240
                          obtain rfl : ad236 = ad240 := (by injection e240)
                          replace hx240_0 := (HB.out.cell (World.block_lt_of_cell? w _ hx240_0)).trans hx240_0
                          replace hx240_1 := (HB.out.cell (World.block_lt_of_cell? w _ hx240_1)).trans hx240_1
                          replace p240 := eq_true p240
                          replace q240 := eq_true q240
                          go_wp2
                          go_meet
                          case rel => exact ⟨_, ((((rd_T98 ((rd_T66 l0 x5_1).f0) (ji30)).f0) == 2)), (by first | rfl | (simp; done) | (simp only [← hji30] <;> (first | rfl | simp)) | (simp [*]; done) | (simp [bne]; done)), H', ⟨by have := HK1.out; have := HJ5.out; have := HK3.out; have := HK4.out; first | omega | exact Nat.le_refl _⟩, ⟨by repeat (first | (with_reducible first | exact HB.out | apply below_alloc | apply pw_below_drewN | apply below_drew1) | exact HB.out)⟩⟩
                         ·rw [if_neg c32] at H
                          exact Z33
                        ·rw [if_neg c31] at H
                         exact Z33
                       ·rw [if_neg c29] at H
                        have c29b0 : (((rd_T98 ((rd_T66 l0 x5_1).f0) x11_4).f0) == 2) = false := beq_eq_false_iff_ne.mpr c29
                        have c29b1 : (((rd_T98 ((rd_T66 l0 x5_1).f0) x11_4).f0) != 2) = true := bne_iff_ne.mpr c29
                        have H' := Aside0.mk H
                        clear H
                        have p238 : 0 ≤ (x5_1 : Int) := of_decide_eq_true Z6
                        have q238 : x5_1 < (l0.length : Int) := of_decide_eq_true Z6
                        obtain ⟨ad238, A238_0, c238_0, e238, hx238_0, hx238_1, hx238_2, hl238_0, hi238_0⟩ := at_T66 HR0.out x5_1 p238 q238
                        (try rw [← Nbq25.out] at hx238_1)
                        obtain rfl : ad233 = ad238 := (by injection e238)
                        replace hx238_0 := (HB.out.cell (World.block_lt_of_cell? w _ hx238_0)).trans hx238_0
                        replace hx238_1 := (HB.out.cell (World.block_lt_of_cell? w _ hx238_1)).trans hx238_1
                        replace hx238_2 := (HB.out.cell (World.block_lt_of_cell? w _ hx238_2)).trans hx238_2
                        have HR238_0 := Aside0.mk hi238_0
                        have HC238_0 := Aside0.mk hl238_0
                        clear hi238_0 hl238_0
                        replace p238 := eq_true p238
                        replace q238 := eq_true q238
                        have p239 : 0 ≤ (x11_4 : Int) := of_decide_eq_true Z6
                        have q239 : x11_4 < (((rd_T66 l0 x5_1).f0).length : Int) := of_decide_eq_true Z6
                        obtain ⟨ad239, e239, hx239_0, hx239_1⟩ := at_T98 HR233_0.out x11_4 p239 q239
                        obtain rfl : ad236 = ad239 := (by injection e239)
                        replace hx239_0 := (HB.out.cell (World.block_lt_of_cell? w _ hx239_0)).trans hx239_0
                        replace hx239_1 := (HB.out.cell (World.block_lt_of_cell? w _ hx239_1)).trans hx239_1
                        replace p239 := eq_true p239
                        replace q239 := eq_true q239
                        go_wp2
                        go_meet
                        case rel => exact Z34
                      ·rw [if_neg c28] at H
                       have c28b0 : decide ((wrap64 (x11_4 + 1)) < t234) = false := decide_eq_false c28
                       clear c28
                       have H' := Aside0.mk H
                       clear H
                       have p238 : 0 ≤ (x5_1 : Int) := of_decide_eq_true Z6
                       have q238 : x5_1 < (l0.length : Int) := of_decide_eq_true Z6
                       obtain ⟨ad238, A238_0, c238_0, e238, hx238_0, hx238_1, hx238_2, hl238_0, hi238_0⟩ := at_T66 HR0.out x5_1 p238 q238
                       (try rw [← Nbq25.out] at hx238_1)
                       obtain rfl : ad233 = ad238 := (by injection e238)
                       replace hx238_0 := (HB.out.cell (World.block_lt_of_cell? w _ hx238_0)).trans hx238_0
                       replace hx238_1 := (HB.out.cell (World.block_lt_of_cell? w _ hx238_1)).trans hx238_1
                       replace hx238_2 := (HB.out.cell (World.block_lt_of_cell? w _ hx238_2)).trans hx238_2
                       have HR238_0 := Aside0.mk hi238_0
                       have HC238_0 := Aside0.mk hl238_0
                       clear hi238_0 hl238_0
                       replace p238 := eq_true p238
                       replace q238 := eq_true q238
                       go_wp2
                       go_meet
                       case rel => exact Z34
                    ·replace c26 := Bool.eq_false_iff.mpr c26
                     subst c26
                     have H1 : (tabardref13_Print.j4 k4 l0 (x4_4 ++ t237) x5_1 ((rd_T66 l0 x5_1).f0) t234 x8_3 x10_4 x11_4 false) = some r := by rw [if_neg (show ¬ (false = true) by decide)] at H; exact H
                     clear H
                     have H := H1
                     clear H1
                     have H' := Aside0.mk H
                     clear H
                     have p238 : 0 ≤ (x5_1 : Int) := of_decide_eq_true Z6
                     have q238 : x5_1 < (l0.length : Int) := of_decide_eq_true Z6
                     obtain ⟨ad238, A238_0, c238_0, e238, hx238_0, hx238_1, hx238_2, hl238_0, hi238_0⟩ := at_T66 HR0.out x5_1 p238 q238
                     (try rw [← Nbq25.out] at hx238_1)
                     obtain rfl : ad233 = ad238 := (by injection e238)
                     replace hx238_0 := (HB.out.cell (World.block_lt_of_cell? w _ hx238_0)).trans hx238_0
                     replace hx238_1 := (HB.out.cell (World.block_lt_of_cell? w _ hx238_1)).trans hx238_1
                     replace hx238_2 := (HB.out.cell (World.block_lt_of_cell? w _ hx238_2)).trans hx238_2
                     have HR238_0 := Aside0.mk hi238_0
                     have HC238_0 := Aside0.mk hl238_0
                     clear hi238_0 hl238_0
                     replace p238 := eq_true p238
                     replace q238 := eq_true q238
                     go_wp2
                     go_meet
                     case rel => exact Z34
                   ·rw [if_neg c24] at H
                    exact Z33
                  ·rw [if_neg c23] at H
                   exact Z33
                 case rest =>
                  clear HC21
                  try clear c1
                  try clear c2
                  try clear p2
                  try clear q2
                  try clear hx2
                  try clear c3
                  try clear c5
                  try clear c5b0
                  try clear c6
                  try clear p6
                  try clear c7
                  try clear c7b0
                  try clear c8
                  try clear c8b0
                  try clear c8b1
                  try clear c8b2
                  try clear c9
                  try clear c9b0
                  try clear c10
                  try clear c10b0
                  try clear c13
                  try clear c13b0
                  try clear c14
                  try clear c14b0
                  try clear c15
                  try clear c15b0
                  try clear c16
                  try clear c16b0
                  try clear c16b1
                  try clear c17
                  try clear c17b0
                  try clear c18
                  try clear c18b0
                  try clear c20
                  try clear c20b0
                  try clear c20b1
                  try clear c20b2
                  try clear c23
                  try clear c23b0
                  try clear p23
                  try clear q23
                  try clear hx23
                  try clear c24
                  try clear c24b0
                  try clear p24
                  try clear q24
                  try clear hx24
                  try clear q25
                  try clear c26
                  try clear c27
                  try clear c28
                  try clear c28b0
                  try clear c29
                  try clear c29b0
                  try clear c29b1
                  try clear c31
                  try clear c31b0
                  try clear c32
                  try clear c32b0
                  try clear hx233_0
                  try clear hx233_1
                  try clear hx233_2
                  try clear hx235_0
                  try clear hx235_1
                  try clear hx236_0
                  try clear hx236_1
                  try clear hx238_0
                  try clear hx238_1
                  try clear hx238_2
                  try clear hx239_0
                  try clear hx239_1
                  try clear hx240_0
                  try clear hx240_1
                  try clear p2
                  try clear p233
                  try clear p235
                  try clear p236
                  try clear p238
                  try clear p239
                  try clear p240
                  try clear p6
                  try clear q2
                  try clear q233
                  try clear q235
                  try clear q236
                  try clear q238
                  try clear q239
                  try clear q240
                  obtain ⟨kq, x90_20, rfl, HA, HJ20, HB⟩ := hcut
                  cases kq with
                  | zero => exact absurd HA.out (by simp [tabardref13_Print.j4])
                  | succ kj20 =>
                   have H := HA.out
                   clear HA
                   simp only [tabardref13_Print.j4] at H
                   have HC33 := Aside0.mk H
                   clear H
                   go_upto_if 90 with (fail)
                   go_cut [4, 10] (fun v4 v10 wc => ∃ (kq : Nat) (x4_32 : ByteArray) (x10_32 : Bool), v4 = .string x4_32 ∧ v10 = .bool x10_32 ∧ Aside0 (tabardref13_Print.j5 kq l0 x4_32 x5_1 ((rd_T66 l0 x5_1).f0) t234 x8_3 x10_32 x11_4 = some r) ∧ Aside0 (kq ≤ kj20) ∧ Aside0 (Below w.heap.size w wc))
                   case first =>
                    have H := HC33.out
                    clear HC33
                    by_cases c34 : x90_20 = true
                    ·subst c34
                     have H1 : (if (x4_4 ++ t237).size + 1 ≤ 9223372036854775807 then (tabardref13_Print.j5 kj20 l0 ((x4_4 ++ t237) ++ (⟨#[44]⟩ : ByteArray)) x5_1 ((rd_T66 l0 x5_1).f0) t234 x8_3 true x11_4) else (none)) = some r := by rw [if_pos rfl] at H; exact H
                     clear H
                     have H := H1
                     clear H1
                     by_cases c35 : (x4_4 ++ t237).size + 1 ≤ 9223372036854775807
                     ·rw [if_pos c35] at H
                      have c35b0 := eq_true c35; have c35b9 := c35; rw [ByteArray.size_append] at c35b9
                      have c35b1 : decide ((x4_4 ++ t237).size + 1 ≤ 9223372036854775807) = true := decide_eq_true c35
                      try have c35b2 : (9223372036854775807 < (x4_4 ++ t237).size + 1) = False := eq_false (Nat.not_lt.2 c35)
                      have H' := Aside0.mk H
                      clear H
                      go_wp2
                      go_meet
                      case rel => exact ⟨_, ((x4_4 ++ t237) ++ (⟨#[44]⟩ : ByteArray)), (true), Z5, Z5, H', ⟨by have := HK1.out; have := HJ5.out; have := HK3.out; have := HK4.out; have := HJ20.out; first | omega | exact Nat.le_refl _⟩, ⟨by repeat (first | (with_reducible first | exact HB.out | apply below_alloc | apply pw_below_drewN | apply below_drew1) | exact HB.out)⟩⟩
                     ·rw [if_neg c35] at H
                      exact Z33
                    ·replace c34 := Bool.eq_false_iff.mpr c34
                     subst c34
                     have H1 : (tabardref13_Print.j5 kj20 l0 (x4_4 ++ t237) x5_1 ((rd_T66 l0 x5_1).f0) t234 x8_3 x10_4 x11_4) = some r := by rw [if_neg (show ¬ (false = true) by decide)] at H; exact H
                     clear H
                     have H := H1
                     clear H1
                     have H' := Aside0.mk H
                     clear H
                     go_wp2
                     go_meet
                     case rel => exact ⟨_, ((x4_4 ++ t237)), (x10_4), Z5, Z5, H', ⟨by have := HK1.out; have := HJ5.out; have := HK3.out; have := HK4.out; have := HJ20.out; first | omega | exact Nat.le_refl _⟩, ⟨by repeat (first | (with_reducible first | exact HB.out | apply below_alloc | apply pw_below_drewN | apply below_drew1) | exact HB.out)⟩⟩
                   case rest =>
                    clear HC33
                    try clear c1
                    try clear c2
                    try clear p2
                    try clear q2
                    try clear hx2
                    try clear c3
                    try clear c5
                    try clear c5b0
                    try clear c6
                    try clear p6
                    try clear c7
                    try clear c7b0
                    try clear c8
                    try clear c8b0
                    try clear c8b1
                    try clear c8b2
                    try clear c9
                    try clear c9b0
                    try clear c10
                    try clear c10b0
                    try clear c13
                    try clear c13b0
                    try clear c14
                    try clear c14b0
                    try clear c15
                    try clear c15b0
                    try clear c16
                    try clear c16b0
                    try clear c16b1
                    try clear c17
                    try clear c17b0
                    try clear c18
                    try clear c18b0
                    try clear c20
                    try clear c20b0
                    try clear c20b1
                    try clear c20b2
                    try clear c23
                    try clear c23b0
                    try clear p23
                    try clear q23
                    try clear hx23
                    try clear c24
                    try clear c24b0
                    try clear p24
                    try clear q24
                    try clear hx24
                    try clear q25
                    try clear c26
                    try clear c27
                    try clear c28
                    try clear c28b0
                    try clear c29
                    try clear c29b0
                    try clear c29b1
                    try clear c31
                    try clear c31b0
                    try clear c32
                    try clear c32b0
                    try clear c34
                    try clear c35
                    try clear c35b0
                    try clear c35b1
                    try clear c35b2
                    try clear hx233_0
                    try clear hx233_1
                    try clear hx233_2
                    try clear hx235_0
                    try clear hx235_1
                    try clear hx236_0
                    try clear hx236_1
                    try clear hx238_0
                    try clear hx238_1
                    try clear hx238_2
                    try clear hx239_0
                    try clear hx239_1
                    try clear hx240_0
                    try clear hx240_1
                    try clear p2
                    try clear p23
                    try clear p233
                    try clear p235
                    try clear p236
                    try clear p238
                    try clear p239
                    try clear p24
                    try clear p240
                    try clear p6
                    try clear q2
                    try clear q23
                    try clear q233
                    try clear q235
                    try clear q236
                    try clear q238
                    try clear q239
                    try clear q24
                    try clear q240
                    try clear q25
                    obtain ⟨kq, x4_32, x10_32, rfl, rfl, HA, HJ32, HB⟩ := hcut
                    cases kq with
                    | zero => exact absurd HA.out (by simp [tabardref13_Print.j5])
                    | succ kj32 =>
                     have H := HA.out
                     clear HA
                     simp only [tabardref13_Print.j5] at H
                     have H' := Aside0.mk H
                     clear H
                     go_wp2
                     go_loopg [4, 12] kj32 (fun kq v4 v12 w' => ∃ (x4_7 : ByteArray) (x12_7 : Int), v4 = .string x4_7 ∧ v12 = .int .i64 x12_7 ∧ Aside0 (tabardref13_Print.l3 kq l0 x4_7 x5_1 ((rd_T66 l0 x5_1).f0) t234 x8_3 x10_32 x11_4 x12_7 = some r) ∧ Aside0 (kq ≤ kj32) ∧ Aside0 (Below w.heap.size w w'))
                     case atStart => exact ⟨(x4_32), (0), Z5, Z5, H', ⟨Nat.le_refl _⟩, ⟨by repeat (first | (with_reducible first | exact HB.out | apply below_alloc | apply pw_below_drewN | apply below_drew1) | exact HB.out)⟩⟩
                     case round =>
                      clear H'
                      try clear c1
                      try clear c2
                      try clear p2
                      try clear q2
                      try clear hx2
                      try clear c3
                      try clear c5
                      try clear c5b0
                      try clear c6
                      try clear p6
                      try clear c7
                      try clear c7b0
                      try clear c8
                      try clear c8b0
                      try clear c8b1
                      try clear c8b2
                      try clear c9
                      try clear c9b0
                      try clear c10
                      try clear c10b0
                      try clear c13
                      try clear c13b0
                      try clear c14
                      try clear c14b0
                      try clear c15
                      try clear c15b0
                      try clear c16
                      try clear c16b0
                      try clear c16b1
                      try clear c17
                      try clear c17b0
                      try clear c18
                      try clear c18b0
                      try clear c20
                      try clear c20b0
                      try clear c20b1
                      try clear c20b2
                      try clear c23
                      try clear c23b0
                      try clear p23
                      try clear q23
                      try clear hx23
                      try clear c24
                      try clear c24b0
                      try clear p24
                      try clear q24
                      try clear hx24
                      try clear q25
                      try clear c26
                      try clear c27
                      try clear c28
                      try clear c28b0
                      try clear c29
                      try clear c29b0
                      try clear c29b1
                      try clear c31
                      try clear c31b0
                      try clear c32
                      try clear c32b0
                      try clear c34
                      try clear c35
                      try clear c35b0
                      try clear c35b1
                      try clear c35b2
                      try clear hx233_0
                      try clear hx233_1
                      try clear hx233_2
                      try clear hx235_0
                      try clear hx235_1
                      try clear hx236_0
                      try clear hx236_1
                      try clear hx238_0
                      try clear hx238_1
                      try clear hx238_2
                      try clear hx239_0
                      try clear hx239_1
                      try clear hx240_0
                      try clear hx240_1
                      try clear p2
                      try clear p23
                      try clear p233
                      try clear p235
                      try clear p236
                      try clear p238
                      try clear p239
                      try clear p24
                      try clear p240
                      try clear p6
                      try clear q2
                      try clear q23
                      try clear q233
                      try clear q235
                      try clear q236
                      try clear q238
                      try clear q239
                      try clear q24
                      try clear q240
                      try clear q25
                      obtain ⟨x4_7, x12_7, rfl, rfl, HA, HK7, HB⟩ := hrel
                      cases gk with
                      | zero => exact absurd HA.out (by simp [tabardref13_Print.l3])
                      | succ k7 =>
                       have H := HA.out
                       clear HA
                       simp only [tabardref13_Print.l3] at H
                       by_cases c36 : x11_4 = x8_3
                       ·rw [if_pos c36] at H
                        have c36b0 : (x11_4 == x8_3) = true := beq_iff_eq.mpr c36
                        have c36b1 : (x11_4 != x8_3) = false := bne_eq_false_iff_eq.mpr c36
                        clear c36
                        by_cases c37 : 0 ≤ x5_1
                        ·rw [if_pos c37] at H
                         have c37b0 : decide (0 ≤ x5_1) = true := decide_eq_true c37
                         clear c37
                         by_cases c38 : x5_1 < (l0.length : Int)
                         ·rw [if_pos c38] at H
                          have c38b0 : decide (x5_1 < (l0.length : Int)) = true := decide_eq_true c38
                          clear c38
                          by_cases c39 : x12_7 < ((rd_T66 l0 x5_1).f2)
                          ·rw [if_pos c39] at H
                           have c39b0 : decide (x12_7 < ((rd_T66 l0 x5_1).f2)) = true := decide_eq_true c39
                           clear c39
                           by_cases c40 : x4_7.size + 1 ≤ 9223372036854775807
                           ·rw [if_pos c40] at H
                            have c40b0 := eq_true c40
                            have c40b1 : decide (x4_7.size + 1 ≤ 9223372036854775807) = true := decide_eq_true c40
                            try have c40b2 : (9223372036854775807 < x4_7.size + 1) = False := eq_false (Nat.not_lt.2 c40)
                            have H' := Aside0.mk H
                            clear H
                            have p241 : 0 ≤ (x5_1 : Int) := of_decide_eq_true Z6
                            have q241 : x5_1 < (l0.length : Int) := of_decide_eq_true Z6
                            obtain ⟨ad241, A241_0, c241_0, e241, hx241_0, hx241_1, hx241_2, hl241_0, hi241_0⟩ := at_T66 HR0.out x5_1 p241 q241
                            obtain rfl : ad233 = ad241 := (by injection e241)
                            replace hx241_0 := (HB.out.cell (World.block_lt_of_cell? w _ hx241_0)).trans hx241_0
                            replace hx241_1 := (HB.out.cell (World.block_lt_of_cell? w _ hx241_1)).trans hx241_1
                            replace hx241_2 := (HB.out.cell (World.block_lt_of_cell? w _ hx241_2)).trans hx241_2
                            have HR241_0 := Aside0.mk hi241_0
                            have HC241_0 := Aside0.mk hl241_0
                            clear hi241_0 hl241_0
                            replace p241 := eq_true p241
                            replace q241 := eq_true q241
                            go_wp2
                            go_roundg k7
                            case measure => exact Z60
                            case rel => exact ⟨(x4_7 ++ (⟨#[44]⟩ : ByteArray)), (wrap64 (x12_7 + 1)), Z5, Z5, H', ⟨by have := HK1.out; have := HJ5.out; have := HK3.out; have := HK4.out; have := HJ20.out; have := HJ32.out; have := HK7.out; omega⟩, ⟨by repeat (first | (with_reducible first | exact HB.out | apply below_alloc | apply pw_below_drewN | apply below_drew1) | exact HB.out)⟩⟩
                           ·rw [if_neg c40] at H
                            exact Z33
                          ·rw [if_neg c39] at H
                           have c39b0 : decide (x12_7 < ((rd_T66 l0 x5_1).f2)) = false := decide_eq_false c39
                           clear c39
                           have H' := Aside0.mk H
                           clear H
                           have p241 : 0 ≤ (x5_1 : Int) := of_decide_eq_true Z6
                           have q241 : x5_1 < (l0.length : Int) := of_decide_eq_true Z6
                           obtain ⟨ad241, A241_0, c241_0, e241, hx241_0, hx241_1, hx241_2, hl241_0, hi241_0⟩ := at_T66 HR0.out x5_1 p241 q241
                           obtain rfl : ad233 = ad241 := (by injection e241)
                           replace hx241_0 := (HB.out.cell (World.block_lt_of_cell? w _ hx241_0)).trans hx241_0
                           replace hx241_1 := (HB.out.cell (World.block_lt_of_cell? w _ hx241_1)).trans hx241_1
                           replace hx241_2 := (HB.out.cell (World.block_lt_of_cell? w _ hx241_2)).trans hx241_2
                           have HR241_0 := Aside0.mk hi241_0
                           have HC241_0 := Aside0.mk hl241_0
                           clear hi241_0 hl241_0
                           replace p241 := eq_true p241
                           replace q241 := eq_true q241
                           go_wp2
                           go_roundg k7
                           case measure => exact Z60
                           case rel => exact Z48
                         ·rw [if_neg c38] at H
                          exact Z33
                        ·rw [if_neg c37] at H
                         exact Z33
                       ·rw [if_neg c36] at H
                        have c36b0 : (x11_4 == x8_3) = false := beq_eq_false_iff_ne.mpr c36
                        have c36b1 : (x11_4 != x8_3) = true := bne_iff_ne.mpr c36
                        have H' := Aside0.mk H
                        clear H
                        go_wp2
                        go_roundg k7
                        case measure => exact Z60
                        case rel => exact Z48
                ·rw [if_neg c20] at H
                 exact Z33
               ·rw [if_neg c18] at H
                exact Z33
              ·rw [if_neg c17] at H
               have c17b0 : decide (x11_4 < (((rd_T66 l0 x5_1).f0).length : Int)) = false := decide_eq_false c17
               clear c17
               have H' := Aside0.mk H
               clear H
               go_wp2
               go_roundg k4
               case measure => have := HK1.out; have := HJ5.out; have := HK3.out; have := HK4.out; omega
               case rel => exact ⟨(x4_4), (wrap64 (x5_1 + 1)), Z5, Z5, H', ⟨by have := HK1.out; have := HJ5.out; have := HK3.out; have := HK4.out; omega⟩, ⟨by repeat (first | (with_reducible first | exact HB.out | apply below_alloc | apply pw_below_drewN | apply below_drew1) | exact HB.out)⟩⟩
        ·rw [if_neg c10] at H
         exact Z33
       ·rw [if_neg c9] at H
        exact Z33
    ·rw [if_neg c5] at H
     have c5b0 : decide (x5_1 < (l0.length : Int)) = false := decide_eq_false c5
     clear c5
     obtain rfl := Option.some.inj H
     go_wp2
     go_ret
     exact Z15
 ·replace c3 := Bool.eq_false_iff.mpr c3
  subst c3
  have H1 : (some (⟨#[]⟩ : ByteArray)) = some r := by rw [if_neg (show ¬ (false = true) by decide)] at H; exact H
  clear H
  have H := H1
  clear H1
  obtain rfl := Option.some.inj H
  go_enter Tryd.func36, Tryd.ntmps36
  go_wp2_with (first | ((with_reducible refine gate_callee (f := 34) rfl ?_); refine goesL_ (some 14) rfl rfl Tryd.func34 (by kernel_rfl) rfl #[.slice A0 l0.length c0] rfl Z3 ?_; (with_reducible refine (tabardref13_Right.calls k _ _ l0 false _ ?side1 ?side2 A2.out).mono ?_); (case side1 => exact Z19); (case side2 => exact HC0.out); rintro e w41 ⟨rfl, hb⟩; refine ⟨_, rfl, ?_⟩; have n0_ := Aside0.mk (below_step Z2 hb); clear HB; have HB := n0_; clear n0_; (try clear hb); (try clear hb2); (try clear hk); (try clear hi)))
  go_ret
  exact Z15
end Go.Proofs.YtmbhjogohfcjgaaDoor.P
