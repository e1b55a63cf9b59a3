-- Laid by wip/tools/xprint.py, a program of this session's, over the kit's print. Lean checks it.
import Derived.Test.YtmbhjogohfcjgaaDoorP0
import Derived.Test.YtmbhjogohfcjgaaDoorPe
namespace Go.Proofs.YtmbhjogohfcjgaaDoor.P
open Go.RowKit Go.Proofs.YtmbhjogohfcjgaaDoorW.PrintWords Go.Proofs.YtmbhjogohfcjgaaDoorW.PrintLast Go.Proofs.YtmbhjogohfcjgaaDoorW.PrintMore
attribute [local go_sem] max2_int min2_int max_two min_two max_three min_three max_four min_four   -- for this text's walks alone
set_option linter.unusedVariables false
set_option linter.unusedSimpArgs false
def pattern_Item_right.f (a0_0 : Int) (a0_1 : ByteArray) : Option (Bool) := if a0_0 = 1 then ((utf8_DecodeRuneInString.f a0_1).bind fun bt102 => (if bt102.2 = (a0_1.size : Int) then (if bt102.2 > 0 then (if bt102.1 = 65533 then (some (bt102.2 == 3)) else (some true)) else (some false)) else (some false))) else (if a0_0 = 2 then (if a0_1.toList = ([48] : List UInt8) then (some true) else (if a0_1.toList = ([35] : List UInt8) then (some true) else (some (a0_1.toList == ([63] : List UInt8))))) else (if a0_0 = 5 then (if a0_1.toList = ([43] : List UInt8) then (some true) else (some (a0_1.toList == ([45] : List UInt8)))) else (if a0_0 ≥ 1 then (if a0_0 ≤ 9 then (some (a0_1.toList == ([] : List UInt8))) else (some false)) else (some false))))
set_option maxHeartbeats 8000000 in
set_option maxRecDepth 100000 in
theorem pattern_Item_right.calls (a0_0 : Int) (a0_1 : ByteArray) (r : Bool) (w : World) (hGL : GL w) (h : pattern_Item_right.f a0_0 a0_1 = some r) :
  Calls Tryd.prog 81 #[.agg #[.int .i64 a0_0, .string a0_1]] w fun e w' => e = .returned (.bool r) ∧ Below w.heap.size w w' := by
 have hu88 := Tryd.underlying88
 have HGL := Aside0.mk hGL
 clear hGL
 have HB := Aside0.mk (Below.refl w.heap.size w)
 have H : (if a0_0 = 1 then ((utf8_DecodeRuneInString.f a0_1).bind fun bt102 => (if bt102.2 = (a0_1.size : Int) then (if bt102.2 > 0 then (if bt102.1 = 65533 then (some (bt102.2 == 3)) else (some true)) else (some false)) else (some false))) else (if a0_0 = 2 then (if a0_1.toList = ([48] : List UInt8) then (some true) else (if a0_1.toList = ([35] : List UInt8) then (some true) else (some (a0_1.toList == ([63] : List UInt8))))) else (if a0_0 = 5 then (if a0_1.toList = ([43] : List UInt8) then (some true) else (some (a0_1.toList == ([45] : List UInt8)))) else (if a0_0 ≥ 1 then (if a0_0 ≤ 9 then (some (a0_1.toList == ([] : List UInt8))) else (some false)) else (some false))))) = some r := h
 clear h
 by_cases c2 : a0_0 = 1
 ·rw [if_pos c2] at H
  have c2b0 : (a0_0 == 1) = true := beq_iff_eq.mpr c2
  have c2b1 : (a0_0 != 1) = false := bne_eq_false_iff_eq.mpr c2
  clear c2
  replace H := Option.bind_eq_some_iff.mp H
  obtain ⟨⟨t102, t103⟩, A30, H⟩ := H
  replace H : (if t103 = (a0_1.size : Int) then (if t103 > 0 then (if t102 = 65533 then (some (t103 == 3)) else (some true)) else (some false)) else (some false)) = some r := H
  have A3 := Aside0.mk A30
  clear A30
  by_cases c4 : t103 = (a0_1.size : Int)
  ·rw [if_pos c4] at H
   have c4b0 : (t103 == (a0_1.size : Int)) = true := beq_iff_eq.mpr c4
   have c4b1 : (t103 != (a0_1.size : Int)) = false := bne_eq_false_iff_eq.mpr c4
   clear c4
   by_cases c5 : t103 > 0
   ·rw [if_pos c5] at H
    have c5b0 : decide (0 < t103) = true := decide_eq_true c5
    clear c5
    by_cases c6 : t102 = 65533
    ·rw [if_pos c6] at H
     have c6b0 : (t102 == 65533) = true := beq_iff_eq.mpr c6
     have c6b1 : (t102 != 65533) = false := bne_eq_false_iff_eq.mpr c6
     clear c6
     obtain rfl := Option.some.inj H
     go_enter Tryd.func81, Tryd.ntmps81
     go_wp2_with (first | ((with_reducible refine gate_dst (N := 1) rfl ?_); refine box_event ?hg (N := 1) ?hd (cs := #[.int .i64 a0_0, .string a0_1]) (t := 88) ?hr ?_; (case hd => rfl); (case hg => rfl); (case hr => exact Z18); intro gb101 hg w7 hbox hb; have n0_ := Aside0.mk (below_step Z2 hb); have n1_ := Aside0.mk (hbox); have n2_ := Aside0.mk ((by rw [hg]; exact (below_size Z2) : w.heap.size ≤ gb101)); have n3_ := Aside0.mk ((by rw [hg]; exact (below_size Z2) : w.heap.size ≤ gb101)); clear HB; have HB := n0_; have BK101 := n1_; have GW101 := n2_; have GE101 := n3_; clear n0_ n1_ n2_ n3_; clear hb hbox hg; have hcz8_0 : w7.cell? ⟨gb101, 0, none⟩ = some (.int .i64 a0_0) := (blk_cell BK101.out 0).trans rfl; have hcz8_1 : w7.cell? ⟨gb101, 1, none⟩ = some (.string a0_1) := (blk_cell BK101.out 1).trans rfl; have hfz8_0 := blk_frozen BK101.out 0; have hfz8_1 := blk_frozen BK101.out 1) | ((with_reducible refine gate_callee (f := 102) rfl ?_); refine goesL_ (some 12) rfl rfl Tryd.func102 (by kernel_rfl) rfl #[.string a0_1] rfl Z3 ?_; (with_reducible refine (utf8_DecodeRuneInString.calls a0_1 t102 t103 _ ?side1 A3.out).mono ?_); (case side1 => exact GL.below HGL.out Z28); rintro e w9 ⟨rfl, hb⟩; refine ⟨_, rfl, ?_⟩; have n0_ := Aside0.mk (blk_below (g := gb101) (o := .cells #[.int .i64 a0_0, .string a0_1] 88 (0, 0)) Z49 hb); have n1_ := Aside0.mk (below_step Z28 hb); clear BK101; clear HB; have BK101 := n0_; have HB := n1_; clear n0_ n1_; (try clear hb); (try clear hb2); (try clear hk); (try clear hi); have hcz10_0 : w9.cell? ⟨gb101, 0, none⟩ = some (.int .i64 a0_0) := (blk_cell BK101.out 0).trans rfl; have hcz10_1 : w9.cell? ⟨gb101, 1, none⟩ = some (.string a0_1) := (blk_cell BK101.out 1).trans rfl; have hfz10_0 := blk_frozen BK101.out 0; have hfz10_1 := blk_frozen BK101.out 1))
     go_ret
     exact Z13
    ·rw [if_neg c6] at H
     have c6b0 : (t102 == 65533) = false := beq_eq_false_iff_ne.mpr c6
     have c6b1 : (t102 != 65533) = true := bne_iff_ne.mpr c6
     obtain rfl := Option.some.inj H
     go_enter Tryd.func81, Tryd.ntmps81
     go_wp2_with (first | ((with_reducible refine gate_dst (N := 1) rfl ?_); refine box_event ?hg (N := 1) ?hd (cs := #[.int .i64 a0_0, .string a0_1]) (t := 88) ?hr ?_; (case hd => rfl); (case hg => rfl); (case hr => exact Z18); intro gb101 hg w11 hbox hb; have n0_ := Aside0.mk (below_step Z2 hb); have n1_ := Aside0.mk (hbox); have n2_ := Aside0.mk ((by rw [hg]; exact (below_size Z2) : w.heap.size ≤ gb101)); have n3_ := Aside0.mk ((by rw [hg]; exact (below_size Z2) : w.heap.size ≤ gb101)); clear HB; have HB := n0_; have BK101 := n1_; have GW101 := n2_; have GE101 := n3_; clear n0_ n1_ n2_ n3_; clear hb hbox hg; have hcz12_0 : w11.cell? ⟨gb101, 0, none⟩ = some (.int .i64 a0_0) := (blk_cell BK101.out 0).trans rfl; have hcz12_1 : w11.cell? ⟨gb101, 1, none⟩ = some (.string a0_1) := (blk_cell BK101.out 1).trans rfl; have hfz12_0 := blk_frozen BK101.out 0; have hfz12_1 := blk_frozen BK101.out 1) | ((with_reducible refine gate_callee (f := 102) rfl ?_); refine goesL_ (some 12) rfl rfl Tryd.func102 (by kernel_rfl) rfl #[.string a0_1] rfl Z3 ?_; (with_reducible refine (utf8_DecodeRuneInString.calls a0_1 t102 t103 _ ?side1 A3.out).mono ?_); (case side1 => exact GL.below HGL.out Z28); rintro e w13 ⟨rfl, hb⟩; refine ⟨_, rfl, ?_⟩; have n0_ := Aside0.mk (blk_below (g := gb101) (o := .cells #[.int .i64 a0_0, .string a0_1] 88 (0, 0)) Z49 hb); have n1_ := Aside0.mk (below_step Z28 hb); clear BK101; clear HB; have BK101 := n0_; have HB := n1_; clear n0_ n1_; (try clear hb); (try clear hb2); (try clear hk); (try clear hi); have hcz14_0 : w13.cell? ⟨gb101, 0, none⟩ = some (.int .i64 a0_0) := (blk_cell BK101.out 0).trans rfl; have hcz14_1 : w13.cell? ⟨gb101, 1, none⟩ = some (.string a0_1) := (blk_cell BK101.out 1).trans rfl; have hfz14_0 := blk_frozen BK101.out 0; have hfz14_1 := blk_frozen BK101.out 1))
     go_ret
     exact Z13
   ·rw [if_neg c5] at H
    have c5b0 : decide (0 < t103) = false := decide_eq_false c5
    clear c5
    obtain rfl := Option.some.inj H
    go_enter Tryd.func81, Tryd.ntmps81
    go_wp2_with (first | ((with_reducible refine gate_dst (N := 1) rfl ?_); refine box_event ?hg (N := 1) ?hd (cs := #[.int .i64 a0_0, .string a0_1]) (t := 88) ?hr ?_; (case hd => rfl); (case hg => rfl); (case hr => exact Z18); intro gb101 hg w15 hbox hb; have n0_ := Aside0.mk (below_step Z2 hb); have n1_ := Aside0.mk (hbox); have n2_ := Aside0.mk ((by rw [hg]; exact (below_size Z2) : w.heap.size ≤ gb101)); have n3_ := Aside0.mk ((by rw [hg]; exact (below_size Z2) : w.heap.size ≤ gb101)); clear HB; have HB := n0_; have BK101 := n1_; have GW101 := n2_; have GE101 := n3_; clear n0_ n1_ n2_ n3_; clear hb hbox hg; have hcz16_0 : w15.cell? ⟨gb101, 0, none⟩ = some (.int .i64 a0_0) := (blk_cell BK101.out 0).trans rfl; have hcz16_1 : w15.cell? ⟨gb101, 1, none⟩ = some (.string a0_1) := (blk_cell BK101.out 1).trans rfl; have hfz16_0 := blk_frozen BK101.out 0; have hfz16_1 := blk_frozen BK101.out 1) | ((with_reducible refine gate_callee (f := 102) rfl ?_); refine goesL_ (some 12) rfl rfl Tryd.func102 (by kernel_rfl) rfl #[.string a0_1] rfl Z3 ?_; (with_reducible refine (utf8_DecodeRuneInString.calls a0_1 t102 t103 _ ?side1 A3.out).mono ?_); (case side1 => exact GL.below HGL.out Z28); rintro e w17 ⟨rfl, hb⟩; refine ⟨_, rfl, ?_⟩; have n0_ := Aside0.mk (blk_below (g := gb101) (o := .cells #[.int .i64 a0_0, .string a0_1] 88 (0, 0)) Z49 hb); have n1_ := Aside0.mk (below_step Z28 hb); clear BK101; clear HB; have BK101 := n0_; have HB := n1_; clear n0_ n1_; (try clear hb); (try clear hb2); (try clear hk); (try clear hi); have hcz18_0 : w17.cell? ⟨gb101, 0, none⟩ = some (.int .i64 a0_0) := (blk_cell BK101.out 0).trans rfl; have hcz18_1 : w17.cell? ⟨gb101, 1, none⟩ = some (.string a0_1) := (blk_cell BK101.out 1).trans rfl; have hfz18_0 := blk_frozen BK101.out 0; have hfz18_1 := blk_frozen BK101.out 1))
    go_ret
    exact Z13
  ·rw [if_neg c4] at H
   have c4b0 : (t103 == (a0_1.size : Int)) = false := beq_eq_false_iff_ne.mpr c4
   have c4b1 : (t103 != (a0_1.size : Int)) = true := bne_iff_ne.mpr c4
   obtain rfl := Option.some.inj H
   go_enter Tryd.func81, Tryd.ntmps81
   go_wp2_with (first | ((with_reducible refine gate_dst (N := 1) rfl ?_); refine box_event ?hg (N := 1) ?hd (cs := #[.int .i64 a0_0, .string a0_1]) (t := 88) ?hr ?_; (case hd => rfl); (case hg => rfl); (case hr => exact Z18); intro gb101 hg w19 hbox hb; have n0_ := Aside0.mk (below_step Z2 hb); have n1_ := Aside0.mk (hbox); have n2_ := Aside0.mk ((by rw [hg]; exact (below_size Z2) : w.heap.size ≤ gb101)); have n3_ := Aside0.mk ((by rw [hg]; exact (below_size Z2) : w.heap.size ≤ gb101)); clear HB; have HB := n0_; have BK101 := n1_; have GW101 := n2_; have GE101 := n3_; clear n0_ n1_ n2_ n3_; clear hb hbox hg; have hcz20_0 : w19.cell? ⟨gb101, 0, none⟩ = some (.int .i64 a0_0) := (blk_cell BK101.out 0).trans rfl; have hcz20_1 : w19.cell? ⟨gb101, 1, none⟩ = some (.string a0_1) := (blk_cell BK101.out 1).trans rfl; have hfz20_0 := blk_frozen BK101.out 0; have hfz20_1 := blk_frozen BK101.out 1) | ((with_reducible refine gate_callee (f := 102) rfl ?_); refine goesL_ (some 12) rfl rfl Tryd.func102 (by kernel_rfl) rfl #[.string a0_1] rfl Z3 ?_; (with_reducible refine (utf8_DecodeRuneInString.calls a0_1 t102 t103 _ ?side1 A3.out).mono ?_); (case side1 => exact GL.below HGL.out Z28); rintro e w21 ⟨rfl, hb⟩; refine ⟨_, rfl, ?_⟩; have n0_ := Aside0.mk (blk_below (g := gb101) (o := .cells #[.int .i64 a0_0, .string a0_1] 88 (0, 0)) Z49 hb); have n1_ := Aside0.mk (below_step Z28 hb); clear BK101; clear HB; have BK101 := n0_; have HB := n1_; clear n0_ n1_; (try clear hb); (try clear hb2); (try clear hk); (try clear hi); have hcz22_0 : w21.cell? ⟨gb101, 0, none⟩ = some (.int .i64 a0_0) := (blk_cell BK101.out 0).trans rfl; have hcz22_1 : w21.cell? ⟨gb101, 1, none⟩ = some (.string a0_1) := (blk_cell BK101.out 1).trans rfl; have hfz22_0 := blk_frozen BK101.out 0; have hfz22_1 := blk_frozen BK101.out 1))
   go_ret
   exact Z13
 ·rw [if_neg c2] at H
  have c2b0 : (a0_0 == 1) = false := beq_eq_false_iff_ne.mpr c2
  have c2b1 : (a0_0 != 1) = true := bne_iff_ne.mpr c2
  by_cases c23 : a0_0 = 2
  ·rw [if_pos c23] at H
   have c23b0 : (a0_0 == 2) = true := beq_iff_eq.mpr c23
   have c23b1 : (a0_0 != 2) = false := bne_eq_false_iff_eq.mpr c23
   clear c23
   by_cases c24 : a0_1.toList = ([48] : List UInt8)
   ·rw [if_pos c24] at H
    have c24b0 : (a0_1.toList == ([48] : List UInt8)) = true := beq_iff_eq.mpr c24
    have c24b1 : (a0_1.toList != ([48] : List UInt8)) = false := bne_eq_false_iff_eq.mpr c24
    clear c24
    obtain rfl := Option.some.inj H
    go_enter Tryd.func81, Tryd.ntmps81
    go_wp2_with (first | ((with_reducible refine gate_dst (N := 1) rfl ?_); refine box_event ?hg (N := 1) ?hd (cs := #[.int .i64 a0_0, .string a0_1]) (t := 88) ?hr ?_; (case hd => rfl); (case hg => rfl); (case hr => exact Z18); intro gb101 hg w25 hbox hb; have n0_ := Aside0.mk (below_step Z2 hb); have n1_ := Aside0.mk (hbox); have n2_ := Aside0.mk ((by rw [hg]; exact (below_size Z2) : w.heap.size ≤ gb101)); have n3_ := Aside0.mk ((by rw [hg]; exact (below_size Z2) : w.heap.size ≤ gb101)); clear HB; have HB := n0_; have BK101 := n1_; have GW101 := n2_; have GE101 := n3_; clear n0_ n1_ n2_ n3_; clear hb hbox hg; have hcz26_0 : w25.cell? ⟨gb101, 0, none⟩ = some (.int .i64 a0_0) := (blk_cell BK101.out 0).trans rfl; have hcz26_1 : w25.cell? ⟨gb101, 1, none⟩ = some (.string a0_1) := (blk_cell BK101.out 1).trans rfl; have hfz26_0 := blk_frozen BK101.out 0; have hfz26_1 := blk_frozen BK101.out 1))
    go_ret
    exact Z13
   ·rw [if_neg c24] at H
    have c24b0 : (a0_1.toList == ([48] : List UInt8)) = false := beq_eq_false_iff_ne.mpr c24
    have c24b1 : (a0_1.toList != ([48] : List UInt8)) = true := bne_iff_ne.mpr c24
    by_cases c27 : a0_1.toList = ([35] : List UInt8)
    ·rw [if_pos c27] at H
     have c27b0 : (a0_1.toList == ([35] : List UInt8)) = true := beq_iff_eq.mpr c27
     have c27b1 : (a0_1.toList != ([35] : List UInt8)) = false := bne_eq_false_iff_eq.mpr c27
     clear c27
     obtain rfl := Option.some.inj H
     go_enter Tryd.func81, Tryd.ntmps81
     go_wp2_with (first | ((with_reducible refine gate_dst (N := 1) rfl ?_); refine box_event ?hg (N := 1) ?hd (cs := #[.int .i64 a0_0, .string a0_1]) (t := 88) ?hr ?_; (case hd => rfl); (case hg => rfl); (case hr => exact Z18); intro gb101 hg w28 hbox hb; have n0_ := Aside0.mk (below_step Z2 hb); have n1_ := Aside0.mk (hbox); have n2_ := Aside0.mk ((by rw [hg]; exact (below_size Z2) : w.heap.size ≤ gb101)); have n3_ := Aside0.mk ((by rw [hg]; exact (below_size Z2) : w.heap.size ≤ gb101)); clear HB; have HB := n0_; have BK101 := n1_; have GW101 := n2_; have GE101 := n3_; clear n0_ n1_ n2_ n3_; clear hb hbox hg; have hcz29_0 : w28.cell? ⟨gb101, 0, none⟩ = some (.int .i64 a0_0) := (blk_cell BK101.out 0).trans rfl; have hcz29_1 : w28.cell? ⟨gb101, 1, none⟩ = some (.string a0_1) := (blk_cell BK101.out 1).trans rfl; have hfz29_0 := blk_frozen BK101.out 0; have hfz29_1 := blk_frozen BK101.out 1))
     go_ret
     exact Z13
    ·rw [if_neg c27] at H
     have c27b0 : (a0_1.toList == ([35] : List UInt8)) = false := beq_eq_false_iff_ne.mpr c27
     have c27b1 : (a0_1.toList != ([35] : List UInt8)) = true := bne_iff_ne.mpr c27
     obtain rfl := Option.some.inj H
     go_enter Tryd.func81, Tryd.ntmps81
     go_wp2_with (first | ((with_reducible refine gate_dst (N := 1) rfl ?_); refine box_event ?hg (N := 1) ?hd (cs := #[.int .i64 a0_0, .string a0_1]) (t := 88) ?hr ?_; (case hd => rfl); (case hg => rfl); (case hr => exact Z18); intro gb101 hg w30 hbox hb; have n0_ := Aside0.mk (below_step Z2 hb); have n1_ := Aside0.mk (hbox); have n2_ := Aside0.mk ((by rw [hg]; exact (below_size Z2) : w.heap.size ≤ gb101)); have n3_ := Aside0.mk ((by rw [hg]; exact (below_size Z2) : w.heap.size ≤ gb101)); clear HB; have HB := n0_; have BK101 := n1_; have GW101 := n2_; have GE101 := n3_; clear n0_ n1_ n2_ n3_; clear hb hbox hg; have hcz31_0 : w30.cell? ⟨gb101, 0, none⟩ = some (.int .i64 a0_0) := (blk_cell BK101.out 0).trans rfl; have hcz31_1 : w30.cell? ⟨gb101, 1, none⟩ = some (.string a0_1) := (blk_cell BK101.out 1).trans rfl; have hfz31_0 := blk_frozen BK101.out 0; have hfz31_1 := blk_frozen BK101.out 1))
     go_ret
     exact Z13
  ·rw [if_neg c23] at H
   have c23b0 : (a0_0 == 2) = false := beq_eq_false_iff_ne.mpr c23
   have c23b1 : (a0_0 != 2) = true := bne_iff_ne.mpr c23
   by_cases c32 : a0_0 = 5
   ·rw [if_pos c32] at H
    have c32b0 : (a0_0 == 5) = true := beq_iff_eq.mpr c32
    have c32b1 : (a0_0 != 5) = false := bne_eq_false_iff_eq.mpr c32
    clear c32
    by_cases c33 : a0_1.toList = ([43] : List UInt8)
    ·rw [if_pos c33] at H
     have c33b0 : (a0_1.toList == ([43] : List UInt8)) = true := beq_iff_eq.mpr c33
     have c33b1 : (a0_1.toList != ([43] : List UInt8)) = false := bne_eq_false_iff_eq.mpr c33
     clear c33
     obtain rfl := Option.some.inj H
     go_enter Tryd.func81, Tryd.ntmps81
     go_wp2_with (first | ((with_reducible refine gate_dst (N := 1) rfl ?_); refine box_event ?hg (N := 1) ?hd (cs := #[.int .i64 a0_0, .string a0_1]) (t := 88) ?hr ?_; (case hd => rfl); (case hg => rfl); (case hr => exact Z18); intro gb101 hg w34 hbox hb; have n0_ := Aside0.mk (below_step Z2 hb); have n1_ := Aside0.mk (hbox); have n2_ := Aside0.mk ((by rw [hg]; exact (below_size Z2) : w.heap.size ≤ gb101)); have n3_ := Aside0.mk ((by rw [hg]; exact (below_size Z2) : w.heap.size ≤ gb101)); clear HB; have HB := n0_; have BK101 := n1_; have GW101 := n2_; have GE101 := n3_; clear n0_ n1_ n2_ n3_; clear hb hbox hg; have hcz35_0 : w34.cell? ⟨gb101, 0, none⟩ = some (.int .i64 a0_0) := (blk_cell BK101.out 0).trans rfl; have hcz35_1 : w34.cell? ⟨gb101, 1, none⟩ = some (.string a0_1) := (blk_cell BK101.out 1).trans rfl; have hfz35_0 := blk_frozen BK101.out 0; have hfz35_1 := blk_frozen BK101.out 1))
     go_ret
     exact Z13
    ·rw [if_neg c33] at H
     have c33b0 : (a0_1.toList == ([43] : List UInt8)) = false := beq_eq_false_iff_ne.mpr c33
     have c33b1 : (a0_1.toList != ([43] : List UInt8)) = true := bne_iff_ne.mpr c33
     obtain rfl := Option.some.inj H
     go_enter Tryd.func81, Tryd.ntmps81
     go_wp2_with (first | ((with_reducible refine gate_dst (N := 1) rfl ?_); refine box_event ?hg (N := 1) ?hd (cs := #[.int .i64 a0_0, .string a0_1]) (t := 88) ?hr ?_; (case hd => rfl); (case hg => rfl); (case hr => exact Z18); intro gb101 hg w36 hbox hb; have n0_ := Aside0.mk (below_step Z2 hb); have n1_ := Aside0.mk (hbox); have n2_ := Aside0.mk ((by rw [hg]; exact (below_size Z2) : w.heap.size ≤ gb101)); have n3_ := Aside0.mk ((by rw [hg]; exact (below_size Z2) : w.heap.size ≤ gb101)); clear HB; have HB := n0_; have BK101 := n1_; have GW101 := n2_; have GE101 := n3_; clear n0_ n1_ n2_ n3_; clear hb hbox hg; have hcz37_0 : w36.cell? ⟨gb101, 0, none⟩ = some (.int .i64 a0_0) := (blk_cell BK101.out 0).trans rfl; have hcz37_1 : w36.cell? ⟨gb101, 1, none⟩ = some (.string a0_1) := (blk_cell BK101.out 1).trans rfl; have hfz37_0 := blk_frozen BK101.out 0; have hfz37_1 := blk_frozen BK101.out 1))
     go_ret
     exact Z13
   ·rw [if_neg c32] at H
    have c32b0 : (a0_0 == 5) = false := beq_eq_false_iff_ne.mpr c32
    have c32b1 : (a0_0 != 5) = true := bne_iff_ne.mpr c32
    by_cases c38 : a0_0 ≥ 1
    ·rw [if_pos c38] at H
     have c38b0 : decide (1 ≤ a0_0) = true := decide_eq_true c38
     clear c38
     by_cases c39 : a0_0 ≤ 9
     ·rw [if_pos c39] at H
      have c39b0 : decide (a0_0 ≤ 9) = true := decide_eq_true c39
      clear c39
      obtain rfl := Option.some.inj H
      go_enter Tryd.func81, Tryd.ntmps81
      go_wp2_with (first | ((with_reducible refine gate_dst (N := 1) rfl ?_); refine box_event ?hg (N := 1) ?hd (cs := #[.int .i64 a0_0, .string a0_1]) (t := 88) ?hr ?_; (case hd => rfl); (case hg => rfl); (case hr => exact Z18); intro gb101 hg w40 hbox hb; have n0_ := Aside0.mk (below_step Z2 hb); have n1_ := Aside0.mk (hbox); have n2_ := Aside0.mk ((by rw [hg]; exact (below_size Z2) : w.heap.size ≤ gb101)); have n3_ := Aside0.mk ((by rw [hg]; exact (below_size Z2) : w.heap.size ≤ gb101)); clear HB; have HB := n0_; have BK101 := n1_; have GW101 := n2_; have GE101 := n3_; clear n0_ n1_ n2_ n3_; clear hb hbox hg; have hcz41_0 : w40.cell? ⟨gb101, 0, none⟩ = some (.int .i64 a0_0) := (blk_cell BK101.out 0).trans rfl; have hcz41_1 : w40.cell? ⟨gb101, 1, none⟩ = some (.string a0_1) := (blk_cell BK101.out 1).trans rfl; have hfz41_0 := blk_frozen BK101.out 0; have hfz41_1 := blk_frozen BK101.out 1))
      go_ret
      exact Z13
     ·rw [if_neg c39] at H
      have c39b0 : decide (a0_0 ≤ 9) = false := decide_eq_false c39
      clear c39
      obtain rfl := Option.some.inj H
      go_enter Tryd.func81, Tryd.ntmps81
      go_wp2_with (first | ((with_reducible refine gate_dst (N := 1) rfl ?_); refine box_event ?hg (N := 1) ?hd (cs := #[.int .i64 a0_0, .string a0_1]) (t := 88) ?hr ?_; (case hd => rfl); (case hg => rfl); (case hr => exact Z18); intro gb101 hg w42 hbox hb; have n0_ := Aside0.mk (below_step Z2 hb); have n1_ := Aside0.mk (hbox); have n2_ := Aside0.mk ((by rw [hg]; exact (below_size Z2) : w.heap.size ≤ gb101)); have n3_ := Aside0.mk ((by rw [hg]; exact (below_size Z2) : w.heap.size ≤ gb101)); clear HB; have HB := n0_; have BK101 := n1_; have GW101 := n2_; have GE101 := n3_; clear n0_ n1_ n2_ n3_; clear hb hbox hg; have hcz43_0 : w42.cell? ⟨gb101, 0, none⟩ = some (.int .i64 a0_0) := (blk_cell BK101.out 0).trans rfl; have hcz43_1 : w42.cell? ⟨gb101, 1, none⟩ = some (.string a0_1) := (blk_cell BK101.out 1).trans rfl; have hfz43_0 := blk_frozen BK101.out 0; have hfz43_1 := blk_frozen BK101.out 1))
      go_ret
      exact Z13
    ·rw [if_neg c38] at H
     have c38b0 : decide (1 ≤ a0_0) = false := decide_eq_false c38
     clear c38
     obtain rfl := Option.some.inj H
     go_enter Tryd.func81, Tryd.ntmps81
     go_wp2_with (first | ((with_reducible refine gate_dst (N := 1) rfl ?_); refine box_event ?hg (N := 1) ?hd (cs := #[.int .i64 a0_0, .string a0_1]) (t := 88) ?hr ?_; (case hd => rfl); (case hg => rfl); (case hr => exact Z18); intro gb101 hg w44 hbox hb; have n0_ := Aside0.mk (below_step Z2 hb); have n1_ := Aside0.mk (hbox); have n2_ := Aside0.mk ((by rw [hg]; exact (below_size Z2) : w.heap.size ≤ gb101)); have n3_ := Aside0.mk ((by rw [hg]; exact (below_size Z2) : w.heap.size ≤ gb101)); clear HB; have HB := n0_; have BK101 := n1_; have GW101 := n2_; have GE101 := n3_; clear n0_ n1_ n2_ n3_; clear hb hbox hg; have hcz45_0 : w44.cell? ⟨gb101, 0, none⟩ = some (.int .i64 a0_0) := (blk_cell BK101.out 0).trans rfl; have hcz45_1 : w44.cell? ⟨gb101, 1, none⟩ = some (.string a0_1) := (blk_cell BK101.out 1).trans rfl; have hfz45_0 := blk_frozen BK101.out 0; have hfz45_1 := blk_frozen BK101.out 1))
     go_ret
     exact Z13
def pattern_digits.l0 : Nat → Int → List (S88) → Int → Int → Option (Int)
 | 0, _, _, _, _ => none
 | k + 1, x3, x6, x7, x8 => if x8 < x7 then (if 0 ≤ x8 then (if x8 < (x6.length : Int) then (if ((rd_T88 x6 x8).f0) = 2 then (pattern_digits.l0 k (wrap64 (x3 + 1)) x6 x7 (wrap64 (x8 + 1))) else (pattern_digits.l0 k x3 x6 x7 (wrap64 (x8 + 1)))) else (none)) else (none)) else (some x3)
def pattern_digits.f (k : Nat) (l0 : List (S88)) : Option (Int) := pattern_digits.l0 k 0 l0 (l0.length : Int) 0
theorem pattern_digits.mono_l : ∀ k, (∀ y0 y1 y2 y3, LeO (pattern_digits.l0 k y0 y1 y2 y3) (pattern_digits.l0 (k + 1) y0 y1 y2 y3))
 | 0 => fun _ _ _ _ r h => by simp [pattern_digits.l0] at h
 | k + 1 => by
  have ih0 := pattern_digits.mono_l k
  ·intro y0 y1 y2 y3
   unfold pattern_digits.l0
   repeat' first
   | (with_reducible exact ih0 _ _ _ _)
   | (with_reducible exact LeO.refl _)
   | (with_reducible exact LeO.none _)
   | (with_reducible refine LeO.ite ?_ ?_)
   | (with_reducible refine LeO.bind ?_ (fun _ => ?_))
   | exact ih0 _ _ _ _
   | exact LeO.none _
   | refine LeO.ite ?_ ?_
   | refine LeO.bind ?_ (fun _ => ?_)
theorem pattern_digits.mono : ∀ a0 k, LeO (pattern_digits.f k a0) (pattern_digits.f (k + 1) a0) := by
 intro a0 k
 have ih0 := pattern_digits.mono_l k
 unfold pattern_digits.f
 repeat' first
   | (with_reducible exact ih0 _ _ _ _)
   | (with_reducible exact LeO.refl _)
   | (with_reducible exact LeO.none _)
   | (with_reducible refine LeO.ite ?_ ?_)
   | (with_reducible refine LeO.bind ?_ (fun _ => ?_))
   | exact ih0 _ _ _ _
   | exact LeO.none _
   | refine LeO.ite ?_ ?_
   | refine LeO.bind ?_ (fun _ => ?_)
set_option maxHeartbeats 8000000 in
set_option maxRecDepth 100000 in
theorem pattern_digits.calls (k : Nat) (A0 : Option Addr) (c0 : Nat) (l0 : List (S88)) (r : Int) (w : World) (hr0 : Kd.C k88 w A0 l0.length l0) (hc0 : l0.length ≤ c0) (h : pattern_digits.f k l0 = some r) :
  Calls Tryd.prog 53 #[.slice A0 l0.length c0] w fun e w' => e = .returned (.int .i64 r) ∧ Below w.heap.size w w' := by
 have hu88 := Tryd.underlying88
 have HR0 := Aside0.mk hr0
 have HC0 := Aside0.mk hc0
 clear hr0 hc0
 have HB := Aside0.mk (Below.refl w.heap.size w)
 have H : (pattern_digits.l0 k 0 l0 (l0.length : Int) 0) = some r := h
 clear h
 have H' := Aside0.mk H
 clear H
 go_enter Tryd.func53, Tryd.ntmps53
 go_wp2
 go_loopg [3, 8] k (fun kq v3 v8 w' => ∃ (x3_1 : Int) (x8_1 : Int), v3 = .int .i64 x3_1 ∧ v8 = .int .i64 x8_1 ∧ Aside0 (pattern_digits.l0 kq x3_1 l0 (l0.length : Int) x8_1 = some r) ∧ Aside0 (kq ≤ k) ∧ Aside0 (Below w.heap.size w w'))
 case atStart => exact Z62
 case round =>
  clear H'
  obtain ⟨x3_1, x8_1, rfl, rfl, HA, HK1, HB⟩ := hrel
  cases gk with
  | zero => exact absurd HA.out (by simp [pattern_digits.l0])
  | succ k1 =>
   have H := HA.out
   clear HA
   simp only [pattern_digits.l0] at H
   by_cases c2 : x8_1 < (l0.length : Int)
   ·rw [if_pos c2] at H
    have c2b0 : decide (x8_1 < (l0.length : Int)) = true := decide_eq_true c2
    clear c2
    by_cases c3 : 0 ≤ x8_1
    ·rw [if_pos c3] at H
     have c3b0 : decide (0 ≤ x8_1) = true := decide_eq_true c3
     clear c3
     by_cases c4 : x8_1 < (l0.length : Int)
     ·rw [if_pos c4] at H
      have c4b0 : decide (x8_1 < (l0.length : Int)) = true := decide_eq_true c4
      clear c4
      by_cases c5 : ((rd_T88 l0 x8_1).f0) = 2
      ·rw [if_pos c5] at H
       have c5b0 : (((rd_T88 l0 x8_1).f0) == 2) = true := beq_iff_eq.mpr c5
       have c5b1 : (((rd_T88 l0 x8_1).f0) != 2) = false := bne_eq_false_iff_eq.mpr c5
       clear c5
       have H' := Aside0.mk H
       clear H
       have p104 : 0 ≤ (x8_1 : Int) := of_decide_eq_true Z6
       have q104 : x8_1 < (l0.length : Int) := of_decide_eq_true Z6
       obtain ⟨ad104, e104, hx104_0, hx104_1⟩ := at_T88 HR0.out x8_1 p104 q104
       cases e104
       replace hx104_0 := (HB.out.cell (World.block_lt_of_cell? w _ hx104_0)).trans hx104_0
       replace hx104_1 := (HB.out.cell (World.block_lt_of_cell? w _ hx104_1)).trans hx104_1
       replace p104 := eq_true p104
       replace q104 := eq_true q104
       go_wp2_with (first | ((with_reducible refine gate_dst (N := 5) rfl ?_); refine box_event ?hg (N := 5) ?hd (cs := #[.int .i64 0, .string (⟨#[]⟩ : ByteArray)]) (t := 88) ?hr ?_; (case hd => rfl); (case hg => rfl); (case hr => exact Z18); intro gb105 hg w6 hbox hb; have n0_ := Aside0.mk (below_step Z2 hb); have n1_ := Aside0.mk (hbox); have n2_ := Aside0.mk ((by rw [hg]; exact (below_size Z2) : w.heap.size ≤ gb105)); have n3_ := Aside0.mk ((by rw [hg]; exact (below_size Z2) : w.heap.size ≤ gb105)); clear HB; have HB := n0_; have BK105 := n1_; have GW105 := n2_; have GE105 := n3_; clear n0_ n1_ n2_ n3_; clear hb hbox hg; have hcz7_0 : w6.cell? ⟨gb105, 0, none⟩ = some (.int .i64 0) := (blk_cell BK105.out 0).trans rfl; have hcz7_1 : w6.cell? ⟨gb105, 1, none⟩ = some (.string (⟨#[]⟩ : ByteArray)) := (blk_cell BK105.out 1).trans rfl; have hfz7_0 := blk_frozen BK105.out 0; have hfz7_1 := blk_frozen BK105.out 1))
       go_roundg k1
       case measure => exact Z59
       case rel => exact ⟨(wrap64 (x3_1 + 1)), (wrap64 (x8_1 + 1)), Z5, Z5, H', ⟨by have := HK1.out; omega⟩, ⟨by repeat (first | (with_reducible first | exact HB.out | apply below_alloc | apply pw_below_drewN | apply below_drew1 | refine below_set ?_ GE105.out) | exact HB.out)⟩⟩
      ·rw [if_neg c5] at H
       have c5b0 : (((rd_T88 l0 x8_1).f0) == 2) = false := beq_eq_false_iff_ne.mpr c5
       have c5b1 : (((rd_T88 l0 x8_1).f0) != 2) = true := bne_iff_ne.mpr c5
       have H' := Aside0.mk H
       clear H
       have p104 : 0 ≤ (x8_1 : Int) := of_decide_eq_true Z6
       have q104 : x8_1 < (l0.length : Int) := of_decide_eq_true Z6
       obtain ⟨ad104, e104, hx104_0, hx104_1⟩ := at_T88 HR0.out x8_1 p104 q104
       cases e104
       replace hx104_0 := (HB.out.cell (World.block_lt_of_cell? w _ hx104_0)).trans hx104_0
       replace hx104_1 := (HB.out.cell (World.block_lt_of_cell? w _ hx104_1)).trans hx104_1
       replace p104 := eq_true p104
       replace q104 := eq_true q104
       go_wp2_with (first | ((with_reducible refine gate_dst (N := 5) rfl ?_); refine box_event ?hg (N := 5) ?hd (cs := #[.int .i64 0, .string (⟨#[]⟩ : ByteArray)]) (t := 88) ?hr ?_; (case hd => rfl); (case hg => rfl); (case hr => exact Z18); intro gb105 hg w8 hbox hb; have n0_ := Aside0.mk (below_step Z2 hb); have n1_ := Aside0.mk (hbox); have n2_ := Aside0.mk ((by rw [hg]; exact (below_size Z2) : w.heap.size ≤ gb105)); have n3_ := Aside0.mk ((by rw [hg]; exact (below_size Z2) : w.heap.size ≤ gb105)); clear HB; have HB := n0_; have BK105 := n1_; have GW105 := n2_; have GE105 := n3_; clear n0_ n1_ n2_ n3_; clear hb hbox hg; have hcz9_0 : w8.cell? ⟨gb105, 0, none⟩ = some (.int .i64 0) := (blk_cell BK105.out 0).trans rfl; have hcz9_1 : w8.cell? ⟨gb105, 1, none⟩ = some (.string (⟨#[]⟩ : ByteArray)) := (blk_cell BK105.out 1).trans rfl; have hfz9_0 := blk_frozen BK105.out 0; have hfz9_1 := blk_frozen BK105.out 1))
       go_roundg k1
       case measure => exact Z59
       case rel => exact ⟨(x3_1), (wrap64 (x8_1 + 1)), Z5, Z5, H', ⟨by have := HK1.out; omega⟩, ⟨by repeat (first | (with_reducible first | exact HB.out | apply below_alloc | apply pw_below_drewN | apply below_drew1 | refine below_set ?_ GE105.out) | exact HB.out)⟩⟩
     ·rw [if_neg c4] at H
      exact Z33
    ·rw [if_neg c3] at H
     exact Z33
   ·rw [if_neg c2] at H
    have c2b0 : decide (x8_1 < (l0.length : Int)) = false := decide_eq_false c2
    clear c2
    obtain rfl := Option.some.inj H
    go_wp2
    go_ret
    exact Z15
def pattern_single.f (a0 : Int) : Option (Int) := if a0 = 46 then (some 3) else (if a0 = 37 then (some 4) else (if a0 = 47 then (some 6) else (if a0 = 64 then (some 8) else (if a0 = 36 then (some 9) else (some 0)))))
set_option maxHeartbeats 8000000 in
set_option maxRecDepth 100000 in
theorem pattern_single.calls (a0 : Int) (r : Int) (w : World) (h : pattern_single.f a0 = some r) :
  Calls Tryd.prog 121 #[.int .u8 a0] w fun e w' => e = .returned (.int .i64 r) ∧ Drawn0 w w' := by
 have H : (if a0 = 46 then (some 3) else (if a0 = 37 then (some 4) else (if a0 = 47 then (some 6) else (if a0 = 64 then (some 8) else (if a0 = 36 then (some 9) else (some 0)))))) = some r := h
 clear h
 by_cases c2 : a0 = 46
 ·rw [if_pos c2] at H
  have c2b0 : (a0 == 46) = true := beq_iff_eq.mpr c2
  have c2b1 : (a0 != 46) = false := bne_eq_false_iff_eq.mpr c2
  clear c2
  obtain rfl := Option.some.inj H
  go_enter Tryd.func121, Tryd.ntmps121
  go_wp2
  go_ret
  exact Z12
 ·rw [if_neg c2] at H
  have c2b0 : (a0 == 46) = false := beq_eq_false_iff_ne.mpr c2
  have c2b1 : (a0 != 46) = true := bne_iff_ne.mpr c2
  by_cases c3 : a0 = 37
  ·rw [if_pos c3] at H
   have c3b0 : (a0 == 37) = true := beq_iff_eq.mpr c3
   have c3b1 : (a0 != 37) = false := bne_eq_false_iff_eq.mpr c3
   clear c3
   obtain rfl := Option.some.inj H
   go_enter Tryd.func121, Tryd.ntmps121
   go_wp2
   go_ret
   exact Z12
  ·rw [if_neg c3] at H
   have c3b0 : (a0 == 37) = false := beq_eq_false_iff_ne.mpr c3
   have c3b1 : (a0 != 37) = true := bne_iff_ne.mpr c3
   by_cases c4 : a0 = 47
   ·rw [if_pos c4] at H
    have c4b0 : (a0 == 47) = true := beq_iff_eq.mpr c4
    have c4b1 : (a0 != 47) = false := bne_eq_false_iff_eq.mpr c4
    clear c4
    obtain rfl := Option.some.inj H
    go_enter Tryd.func121, Tryd.ntmps121
    go_wp2
    go_ret
    exact Z12
   ·rw [if_neg c4] at H
    have c4b0 : (a0 == 47) = false := beq_eq_false_iff_ne.mpr c4
    have c4b1 : (a0 != 47) = true := bne_iff_ne.mpr c4
    by_cases c5 : a0 = 64
    ·rw [if_pos c5] at H
     have c5b0 : (a0 == 64) = true := beq_iff_eq.mpr c5
     have c5b1 : (a0 != 64) = false := bne_eq_false_iff_eq.mpr c5
     clear c5
     obtain rfl := Option.some.inj H
     go_enter Tryd.func121, Tryd.ntmps121
     go_wp2
     go_ret
     exact Z12
    ·rw [if_neg c5] at H
     have c5b0 : (a0 == 64) = false := beq_eq_false_iff_ne.mpr c5
     have c5b1 : (a0 != 64) = true := bne_iff_ne.mpr c5
     by_cases c6 : a0 = 36
     ·rw [if_pos c6] at H
      have c6b0 : (a0 == 36) = true := beq_iff_eq.mpr c6
      have c6b1 : (a0 != 36) = false := bne_eq_false_iff_eq.mpr c6
      clear c6
      obtain rfl := Option.some.inj H
      go_enter Tryd.func121, Tryd.ntmps121
      go_wp2
      go_ret
      exact Z12
     ·rw [if_neg c6] at H
      have c6b0 : (a0 == 36) = false := beq_eq_false_iff_ne.mpr c6
      have c6b1 : (a0 != 36) = true := bne_iff_ne.mpr c6
      obtain rfl := Option.some.inj H
      go_enter Tryd.func121, Tryd.ntmps121
      go_wp2
      go_ret
      exact Z12
def tabardref13_at.l0 : Nat → List (S98) → Int → Int → Option (Int)
 | 0, _, _, _ => none
 | k + 1, x0, x1, x5 => if x5 < (x0.length : Int) then (if 0 ≤ x5 then (if ((rd_T98 x0 x5).f0) = x1 then (some x5) else (tabardref13_at.l0 k x0 x1 (wrap64 (x5 + 1)))) else (none)) else (some (x0.length : Int))
def tabardref13_at.f (k : Nat) (l0 : List (S98)) (a1 : Int) : Option (Int) := tabardref13_at.l0 k l0 a1 0
theorem tabardref13_at.mono_l : ∀ k, (∀ y0 y1 y2, LeO (tabardref13_at.l0 k y0 y1 y2) (tabardref13_at.l0 (k + 1) y0 y1 y2))
 | 0 => fun _ _ _ r h => by simp [tabardref13_at.l0] at h
 | k + 1 => by
  have ih0 := tabardref13_at.mono_l k
  ·intro y0 y1 y2
   unfold tabardref13_at.l0
   repeat' first
   | (with_reducible exact ih0 _ _ _)
   | (with_reducible exact LeO.refl _)
   | (with_reducible exact LeO.none _)
   | (with_reducible refine LeO.ite ?_ ?_)
   | (with_reducible refine LeO.bind ?_ (fun _ => ?_))
   | exact ih0 _ _ _
   | exact LeO.none _
   | refine LeO.ite ?_ ?_
   | refine LeO.bind ?_ (fun _ => ?_)
theorem tabardref13_at.mono : ∀ a0 a1 k, LeO (tabardref13_at.f k a0 a1) (tabardref13_at.f (k + 1) a0 a1) := by
 intro a0 a1 k
 have ih0 := tabardref13_at.mono_l k
 unfold tabardref13_at.f
 repeat' first
   | (with_reducible exact ih0 _ _ _)
   | (with_reducible exact LeO.refl _)
   | (with_reducible exact LeO.none _)
   | (with_reducible refine LeO.ite ?_ ?_)
   | (with_reducible refine LeO.bind ?_ (fun _ => ?_))
   | exact ih0 _ _ _
   | exact LeO.none _
   | refine LeO.ite ?_ ?_
   | refine LeO.bind ?_ (fun _ => ?_)
set_option maxHeartbeats 8000000 in
set_option maxRecDepth 100000 in
theorem tabardref13_at.calls (k : Nat) (A0 : Option Addr) (c0 : Nat) (l0 : List (S98)) (a1 : Int) (r : Int) (w : World) (hr0 : Kd.C k98 w A0 l0.length l0) (hc0 : l0.length ≤ c0) (h : tabardref13_at.f k l0 a1 = some r) :
  Calls Tryd.prog 84 #[.slice A0 l0.length c0, .int .i64 a1] w fun e w' => e = .returned (.int .i64 r) ∧ Drawn0 w w' := by
 have HR0 := Aside0.mk hr0
 have HC0 := Aside0.mk hc0
 clear hr0 hc0
 have H : (tabardref13_at.l0 k l0 a1 0) = some r := h
 clear h
 have H' := Aside0.mk H
 clear H
 go_enter Tryd.func84, Tryd.ntmps84
 go_wp2
 go_loopg [5] k (fun kq v5 w' => ∃ (x5_1 : Int), v5 = .int .i64 x5_1 ∧ Aside0 (tabardref13_at.l0 kq l0 a1 x5_1 = some r) ∧ Aside0 (kq ≤ k) ∧ Drawn0 w w')
 case atStart => exact ⟨(0), Z5, H', ⟨Nat.le_refl _⟩, by repeat (first | exact Drawn0.refl _ | apply Drawn0.step)⟩
 case round =>
  clear H'
  try clear p2
  obtain ⟨x5_1, rfl, HA, HK1, ⟨m1, rfl⟩⟩ := hrel
  cases gk with
  | zero => exact absurd HA.out (by simp [tabardref13_at.l0])
  | succ k1 =>
   have H := HA.out
   clear HA
   simp only [tabardref13_at.l0] at H
   by_cases c3 : x5_1 < (l0.length : Int)
   ·rw [if_pos c3] at H
    have c3b0 : decide (x5_1 < (l0.length : Int)) = true := decide_eq_true c3
    clear c3
    by_cases c4 : 0 ≤ x5_1
    ·rw [if_pos c4] at H
     have c4b0 : decide (0 ≤ x5_1) = true := decide_eq_true c4
     clear c4
     by_cases c5 : ((rd_T98 l0 x5_1).f0) = a1
     ·rw [if_pos c5] at H
      have c5b0 : (((rd_T98 l0 x5_1).f0) == a1) = true := beq_iff_eq.mpr c5
      have c5b1 : (((rd_T98 l0 x5_1).f0) != a1) = false := bne_eq_false_iff_eq.mpr c5
      clear c5
      obtain rfl := Option.some.inj H
      have p106 : 0 ≤ (x5_1 : Int) := of_decide_eq_true Z6
      have q106 : x5_1 < (l0.length : Int) := of_decide_eq_true Z6
      obtain ⟨ad106, e106, hx106_0, hx106_1⟩ := at_T98 HR0.out x5_1 p106 q106
      cases e106
      replace p106 := eq_true p106
      replace q106 := eq_true q106
      go_wp2
      go_ret
      exact Z12
     ·rw [if_neg c5] at H
      have c5b0 : (((rd_T98 l0 x5_1).f0) == a1) = false := beq_eq_false_iff_ne.mpr c5
      have c5b1 : (((rd_T98 l0 x5_1).f0) != a1) = true := bne_iff_ne.mpr c5
      have H' := Aside0.mk H
      clear H
      have p106 : 0 ≤ (x5_1 : Int) := of_decide_eq_true Z6
      have q106 : x5_1 < (l0.length : Int) := of_decide_eq_true Z6
      obtain ⟨ad106, e106, hx106_0, hx106_1⟩ := at_T98 HR0.out x5_1 p106 q106
      cases e106
      replace p106 := eq_true p106
      replace q106 := eq_true q106
      go_wp2
      go_roundg k1
      case measure => exact Z59
      case rel => exact ⟨(wrap64 (x5_1 + 1)), Z5, H', ⟨by have := HK1.out; omega⟩, by repeat (first | exact Drawn0.refl _ | apply Drawn0.step)⟩
    ·rw [if_neg c4] at H
     exact Z33
   ·rw [if_neg c3] at H
    have c3b0 : decide (x5_1 < (l0.length : Int)) = false := decide_eq_false c3
    clear c3
    obtain rfl := Option.some.inj H
    go_wp2
    go_ret
    exact Z12
def tabardref13_WholeEnd.f (k : Nat) (l0 : List (S98)) : Option (Int) := (tabardref13_at.f k l0 3).bind fun t107 => ((tabardref13_at.f k l0 5).bind fun t108 => ((tabardref13_at.f k l0 6).bind fun t109 => (some (mn t107 (mn t108 t109)))))
theorem tabardref13_WholeEnd.mono : ∀ a0 k, LeO (tabardref13_WholeEnd.f k a0) (tabardref13_WholeEnd.f (k + 1) a0) := by
 intro a0 k
 unfold tabardref13_WholeEnd.f
 repeat' first
   | (with_reducible exact tabardref13_at.mono _ _ _)
   | (with_reducible exact LeO.refl _)
   | (with_reducible exact LeO.none _)
   | (with_reducible refine LeO.ite ?_ ?_)
   | (with_reducible refine LeO.bind ?_ (fun _ => ?_))
   | exact tabardref13_at.mono _ _ _
   | exact LeO.none _
   | refine LeO.ite ?_ ?_
   | refine LeO.bind ?_ (fun _ => ?_)
set_option maxHeartbeats 8000000 in
set_option maxRecDepth 100000 in
theorem tabardref13_WholeEnd.calls (k : Nat) (A0 : Option Addr) (c0 : Nat) (l0 : List (S98)) (r : Int) (w : World) (hr0 : Kd.C k98 w A0 l0.length l0) (hc0 : l0.length ≤ c0) (h : tabardref13_WholeEnd.f k l0 = some r) :
  Calls Tryd.prog 64 #[.slice A0 l0.length c0] w fun e w' => e = .returned (.int .i64 r) ∧ Below w.heap.size w w' := by
 have HR0 := Aside0.mk hr0
 have HC0 := Aside0.mk hc0
 clear hr0 hc0
 have HB := Aside0.mk (Below.refl w.heap.size w)
 have H : ((tabardref13_at.f k l0 3).bind fun t107 => ((tabardref13_at.f k l0 5).bind fun t108 => ((tabardref13_at.f k l0 6).bind fun t109 => (some (mn t107 (mn t108 t109)))))) = some r := h
 clear h
 replace H := Option.bind_eq_some_iff.mp H
 obtain ⟨t107, A20, H⟩ := H
 replace H : ((tabardref13_at.f k l0 5).bind fun t108 => ((tabardref13_at.f k l0 6).bind fun t109 => (some (mn t107 (mn t108 t109))))) = some r := H
 have A2 := Aside0.mk A20
 clear A20
 replace H := Option.bind_eq_some_iff.mp H
 obtain ⟨t108, A30, H⟩ := H
 replace H : ((tabardref13_at.f k l0 6).bind fun t109 => (some (mn t107 (mn t108 t109)))) = some r := H
 have A3 := Aside0.mk A30
 clear A30
 replace H := Option.bind_eq_some_iff.mp H
 obtain ⟨t109, A40, H⟩ := H
 replace H : (some (mn t107 (mn t108 t109))) = some r := H
 have A4 := Aside0.mk A40
 clear A40
 obtain ⟨ji5, hji5⟩ : ∃ j_ : Int, (mn t108 t109) = j_ := ⟨_, rfl⟩
 replace H : (some (mn t107 (ji5))) = some r := by first | (rw [hji5] at H; exact H) | (simp only [hji5] at H ⊢; exact H)
 (try rw [hji5] at A2)
 (try rw [hji5] at A3)
 (try rw [hji5] at A4)
 have hji5_ : (if t109 < t108 then t109 else t108) = ji5 := hji5
 obtain ⟨ji6, hji6⟩ : ∃ j_ : Int, (mn t107 (ji5)) = j_ := ⟨_, rfl⟩
 replace H : (some ji6) = some r := by first | (rw [hji6] at H; exact H) | (simp only [hji6] at H ⊢; exact H)
 (try rw [hji6] at A2)
 (try rw [hji6] at A3)
 (try rw [hji6] at A4)
 have hji6_ : (if (ji5) < t107 then (ji5) else t107) = ji6 := hji6
 obtain rfl := Option.some.inj H
 go_enter Tryd.func64, Tryd.ntmps64
 go_wp2_with (first | ((with_reducible refine gate_callee (f := 84) rfl ?_); refine goesL_ (some 4) rfl rfl Tryd.func84 (by kernel_rfl) rfl #[.slice A0 l0.length c0, .int .i64 3] rfl Z3 ?_; (with_reducible refine (tabardref13_at.calls k _ _ l0 3 t107 _ ?side1 ?side2 A2.out).mono ?_); (case side1 => exact Z19); (case side2 => exact HC0.out); rintro e w' ⟨rfl, ⟨nd, rfl⟩⟩; refine ⟨_, rfl, ?_⟩) | ((with_reducible refine gate_callee (f := 84) rfl ?_); refine goesL_ (some 6) rfl rfl Tryd.func84 (by kernel_rfl) rfl #[.slice A0 l0.length c0, .int .i64 5] rfl Z3 ?_; (with_reducible refine (tabardref13_at.calls k _ _ l0 5 t108 _ ?side1 ?side2 A3.out).mono ?_); (case side1 => exact Z19); (case side2 => exact HC0.out); rintro e w' ⟨rfl, ⟨nd, rfl⟩⟩; refine ⟨_, rfl, ?_⟩) | ((with_reducible refine gate_callee (f := 84) rfl ?_); refine goesL_ (some 8) rfl rfl Tryd.func84 (by kernel_rfl) rfl #[.slice A0 l0.length c0, .int .i64 6] rfl Z3 ?_; (with_reducible refine (tabardref13_at.calls k _ _ l0 6 t109 _ ?side1 ?side2 A4.out).mono ?_); (case side1 => exact Z19); (case side2 => exact HC0.out); rintro e w' ⟨rfl, ⟨nd, rfl⟩⟩; refine ⟨_, rfl, ?_⟩))
 go_ret
 exact ⟨by first | rfl | (simp [errW_none, errW_some] <;> rfl) | (simp only [← hji5, ← hji6]; first | rfl | (simp [errW_none, errW_some] <;> rfl)) | (simp [*, errW_none, errW_some] <;> rfl), by repeat (first | (with_reducible first | exact HB.out | apply below_alloc | apply pw_below_drewN | apply below_drew1) | exact HB.out)⟩
end Go.Proofs.YtmbhjogohfcjgaaDoor.P
