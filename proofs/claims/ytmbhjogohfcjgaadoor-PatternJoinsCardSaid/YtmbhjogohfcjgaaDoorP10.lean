-- Laid by wip/tools/xprint.py, a program of this session's, over the kit's print. Lean checks it.
import Derived.Test.YtmbhjogohfcjgaaDoorP0
import Derived.Test.YtmbhjogohfcjgaaDoorPe
namespace Go.Proofs.YtmbhjogohfcjgaaDoor.P
open Go.RowKit Go.Proofs.YtmbhjogohfcjgaaDoorW.PrintWords Go.Proofs.YtmbhjogohfcjgaaDoorW.PrintLast Go.Proofs.YtmbhjogohfcjgaaDoorW.PrintMore
attribute [local go_sem] max2_int min2_int max_two min_two max_three min_three max_four min_four   -- for this text's walks alone
set_option linter.unusedVariables false
set_option linter.unusedSimpArgs false
def pattern_Item_sign.f (a0_0 : Int) (a0_1 : ByteArray) : Option (ByteArray) := if a0_0 = 1 then ((strings_Contains.f (⟨#[32, 45, 43, 40, 41, 58]⟩ : ByteArray) a0_1).bind fun t226 => (if t226 = true then (some a0_1) else (if 1 + a0_1.size ≤ 9223372036854775807 then (some ((⟨#[92]⟩ : ByteArray) ++ a0_1)) else (none)))) else (if a0_0 = 5 then (if 1 + a0_1.size ≤ 9223372036854775807 then (some ((⟨#[69]⟩ : ByteArray) ++ a0_1)) else (none)) else (if a0_0 = 7 then (some (⟨#[71, 101, 110, 101, 114, 97, 108]⟩ : ByteArray)) else (if a0_0 = 3 then (some (⟨#[46]⟩ : ByteArray)) else (if a0_0 = 4 then (some (⟨#[37]⟩ : ByteArray)) else (if a0_0 = 6 then (some (⟨#[47]⟩ : ByteArray)) else (if a0_0 = 8 then (some (⟨#[64]⟩ : ByteArray)) else (if a0_0 = 9 then (some (⟨#[36]⟩ : ByteArray)) else (some a0_1))))))))
set_option maxHeartbeats 8000000 in
set_option maxRecDepth 100000 in
theorem pattern_Item_sign.calls (a0_0 : Int) (a0_1 : ByteArray) (r : ByteArray) (w : World) (hGL : GL w) (h : pattern_Item_sign.f a0_0 a0_1 = some r) :
  Calls Tryd.prog 90 #[.agg #[.int .i64 a0_0, .string a0_1]] w fun e w' => e = .returned (.string r) ∧ Below w.heap.size w w' := by
 have hu88 := Tryd.underlying88
 have HGL := Aside0.mk hGL
 clear hGL
 have HB := Aside0.mk (Below.refl w.heap.size w)
 have H : (if a0_0 = 1 then ((strings_Contains.f (⟨#[32, 45, 43, 40, 41, 58]⟩ : ByteArray) a0_1).bind fun t226 => (if t226 = true then (some a0_1) else (if 1 + a0_1.size ≤ 9223372036854775807 then (some ((⟨#[92]⟩ : ByteArray) ++ a0_1)) else (none)))) else (if a0_0 = 5 then (if 1 + a0_1.size ≤ 9223372036854775807 then (some ((⟨#[69]⟩ : ByteArray) ++ a0_1)) else (none)) else (if a0_0 = 7 then (some (⟨#[71, 101, 110, 101, 114, 97, 108]⟩ : ByteArray)) else (if a0_0 = 3 then (some (⟨#[46]⟩ : ByteArray)) else (if a0_0 = 4 then (some (⟨#[37]⟩ : ByteArray)) else (if a0_0 = 6 then (some (⟨#[47]⟩ : ByteArray)) else (if a0_0 = 8 then (some (⟨#[64]⟩ : ByteArray)) else (if a0_0 = 9 then (some (⟨#[36]⟩ : ByteArray)) else (some a0_1))))))))) = some r := h
 clear h
 by_cases c2 : a0_0 = 1
 ·rw [if_pos c2] at H
  have c2b0 : (a0_0 == 1) = true := beq_iff_eq.mpr c2
  have c2b1 : (a0_0 != 1) = false := bne_eq_false_iff_eq.mpr c2
  clear c2
  replace H := Option.bind_eq_some_iff.mp H
  obtain ⟨t226, A30, H⟩ := H
  replace H : (if t226 = true then (some a0_1) else (if 1 + a0_1.size ≤ 9223372036854775807 then (some ((⟨#[92]⟩ : ByteArray) ++ a0_1)) else (none))) = some r := H
  have A3 := Aside0.mk A30
  clear A30
  by_cases c4 : t226 = true
  ·subst c4
   have H1 : (some a0_1) = some r := by rw [if_pos rfl] at H; exact H
   clear H
   have H := H1
   clear H1
   obtain rfl := Option.some.inj H
   go_enter Tryd.func90, Tryd.ntmps90
   go_wp2_with (first | ((with_reducible refine gate_dst (N := 1) rfl ?_); refine box_event ?hg (N := 1) ?hd (cs := #[.int .i64 a0_0, .string a0_1]) (t := 88) ?hr ?_; (case hd => rfl); (case hg => rfl); (case hr => exact Z18); intro gb225 hg w5 hbox hb; have n0_ := Aside0.mk (below_step Z2 hb); have n1_ := Aside0.mk (hbox); have n2_ := Aside0.mk ((by rw [hg]; exact (below_size Z2) : w.heap.size ≤ gb225)); have n3_ := Aside0.mk ((by rw [hg]; exact (below_size Z2) : w.heap.size ≤ gb225)); clear HB; have HB := n0_; have BK225 := n1_; have GW225 := n2_; have GE225 := n3_; clear n0_ n1_ n2_ n3_; clear hb hbox hg; have hcz6_0 : w5.cell? ⟨gb225, 0, none⟩ = some (.int .i64 a0_0) := (blk_cell BK225.out 0).trans rfl; have hcz6_1 : w5.cell? ⟨gb225, 1, none⟩ = some (.string a0_1) := (blk_cell BK225.out 1).trans rfl; have hfz6_0 := blk_frozen BK225.out 0; have hfz6_1 := blk_frozen BK225.out 1) | ((with_reducible refine gate_callee (f := 115) rfl ?_); refine goesL_ (some 9) rfl rfl Tryd.func115 (by kernel_rfl) rfl #[.string (⟨#[32, 45, 43, 40, 41, 58]⟩ : ByteArray), .string a0_1] rfl Z3 ?_; (with_reducible refine (strings_Contains.calls (⟨#[32, 45, 43, 40, 41, 58]⟩ : ByteArray) a0_1 true _ ?side1 A3.out).mono ?_); (case side1 => exact GL.below HGL.out Z43); rintro e w7 ⟨rfl, hb⟩; refine ⟨_, rfl, ?_⟩; have n0_ := Aside0.mk (blk_below (g := gb225) (o := .cells #[.int .i64 a0_0, .string a0_1] 88 (0, 0)) (by (with_reducible repeat (first | refine blk_drewN ?_ _ | refine blk_drew ?_ | refine blk_alloc ?_ _)); exact BK225.out) hb); have n1_ := Aside0.mk (below_step Z43 hb); clear BK225; clear HB; have BK225 := n0_; have HB := n1_; clear n0_ n1_; (try clear hb); (try clear hb2); (try clear hk); (try clear hi); have hcz8_0 : w7.cell? ⟨gb225, 0, none⟩ = some (.int .i64 a0_0) := (blk_cell BK225.out 0).trans rfl; have hcz8_1 : w7.cell? ⟨gb225, 1, none⟩ = some (.string a0_1) := (blk_cell BK225.out 1).trans rfl; have hfz8_0 := blk_frozen BK225.out 0; have hfz8_1 := blk_frozen BK225.out 1))
   go_ret
   exact Z17
  ·replace c4 := Bool.eq_false_iff.mpr c4
   subst c4
   have H1 : (if 1 + a0_1.size ≤ 9223372036854775807 then (some ((⟨#[92]⟩ : ByteArray) ++ a0_1)) else (none)) = some r := by rw [if_neg (show ¬ (false = true) by decide)] at H; exact H
   clear H
   have H := H1
   clear H1
   by_cases c9 : 1 + a0_1.size ≤ 9223372036854775807
   ·rw [if_pos c9] at H
    have c9b0 := eq_true c9
    have c9b1 : decide (1 + a0_1.size ≤ 9223372036854775807) = true := decide_eq_true c9
    try have c9b2 : (9223372036854775807 < 1 + a0_1.size) = False := eq_false (Nat.not_lt.2 c9)
    obtain rfl := Option.some.inj H
    go_enter Tryd.func90, Tryd.ntmps90
    go_wp2_with (first | ((with_reducible refine gate_dst (N := 1) rfl ?_); refine box_event ?hg (N := 1) ?hd (cs := #[.int .i64 a0_0, .string a0_1]) (t := 88) ?hr ?_; (case hd => rfl); (case hg => rfl); (case hr => exact Z18); intro gb225 hg w10 hbox hb; have n0_ := Aside0.mk (below_step Z2 hb); have n1_ := Aside0.mk (hbox); have n2_ := Aside0.mk ((by rw [hg]; exact (below_size Z2) : w.heap.size ≤ gb225)); have n3_ := Aside0.mk ((by rw [hg]; exact (below_size Z2) : w.heap.size ≤ gb225)); clear HB; have HB := n0_; have BK225 := n1_; have GW225 := n2_; have GE225 := n3_; clear n0_ n1_ n2_ n3_; clear hb hbox hg; have hcz11_0 : w10.cell? ⟨gb225, 0, none⟩ = some (.int .i64 a0_0) := (blk_cell BK225.out 0).trans rfl; have hcz11_1 : w10.cell? ⟨gb225, 1, none⟩ = some (.string a0_1) := (blk_cell BK225.out 1).trans rfl; have hfz11_0 := blk_frozen BK225.out 0; have hfz11_1 := blk_frozen BK225.out 1) | ((with_reducible refine gate_callee (f := 115) rfl ?_); refine goesL_ (some 9) rfl rfl Tryd.func115 (by kernel_rfl) rfl #[.string (⟨#[32, 45, 43, 40, 41, 58]⟩ : ByteArray), .string a0_1] rfl Z3 ?_; (with_reducible refine (strings_Contains.calls (⟨#[32, 45, 43, 40, 41, 58]⟩ : ByteArray) a0_1 false _ ?side1 A3.out).mono ?_); (case side1 => exact GL.below HGL.out Z43); rintro e w12 ⟨rfl, hb⟩; refine ⟨_, rfl, ?_⟩; have n0_ := Aside0.mk (blk_below (g := gb225) (o := .cells #[.int .i64 a0_0, .string a0_1] 88 (0, 0)) (by (with_reducible repeat (first | refine blk_drewN ?_ _ | refine blk_drew ?_ | refine blk_alloc ?_ _)); exact BK225.out) hb); have n1_ := Aside0.mk (below_step Z43 hb); clear BK225; clear HB; have BK225 := n0_; have HB := n1_; clear n0_ n1_; (try clear hb); (try clear hb2); (try clear hk); (try clear hi); have hcz13_0 : w12.cell? ⟨gb225, 0, none⟩ = some (.int .i64 a0_0) := (blk_cell BK225.out 0).trans rfl; have hcz13_1 : w12.cell? ⟨gb225, 1, none⟩ = some (.string a0_1) := (blk_cell BK225.out 1).trans rfl; have hfz13_0 := blk_frozen BK225.out 0; have hfz13_1 := blk_frozen BK225.out 1))
    go_ret
    exact Z17
   ·rw [if_neg c9] at H
    exact Z33
 ·rw [if_neg c2] at H
  have c2b0 : (a0_0 == 1) = false := beq_eq_false_iff_ne.mpr c2
  have c2b1 : (a0_0 != 1) = true := bne_iff_ne.mpr c2
  by_cases c14 : a0_0 = 5
  ·rw [if_pos c14] at H
   have c14b0 : (a0_0 == 5) = true := beq_iff_eq.mpr c14
   have c14b1 : (a0_0 != 5) = false := bne_eq_false_iff_eq.mpr c14
   clear c14
   by_cases c15 : 1 + a0_1.size ≤ 9223372036854775807
   ·rw [if_pos c15] at H
    have c15b0 := eq_true c15
    have c15b1 : decide (1 + a0_1.size ≤ 9223372036854775807) = true := decide_eq_true c15
    try have c15b2 : (9223372036854775807 < 1 + a0_1.size) = False := eq_false (Nat.not_lt.2 c15)
    obtain rfl := Option.some.inj H
    go_enter Tryd.func90, Tryd.ntmps90
    go_wp2_with (first | ((with_reducible refine gate_dst (N := 1) rfl ?_); refine box_event ?hg (N := 1) ?hd (cs := #[.int .i64 a0_0, .string a0_1]) (t := 88) ?hr ?_; (case hd => rfl); (case hg => rfl); (case hr => exact Z18); intro gb225 hg w16 hbox hb; have n0_ := Aside0.mk (below_step Z2 hb); have n1_ := Aside0.mk (hbox); have n2_ := Aside0.mk ((by rw [hg]; exact (below_size Z2) : w.heap.size ≤ gb225)); have n3_ := Aside0.mk ((by rw [hg]; exact (below_size Z2) : w.heap.size ≤ gb225)); clear HB; have HB := n0_; have BK225 := n1_; have GW225 := n2_; have GE225 := n3_; clear n0_ n1_ n2_ n3_; clear hb hbox hg; have hcz17_0 : w16.cell? ⟨gb225, 0, none⟩ = some (.int .i64 a0_0) := (blk_cell BK225.out 0).trans rfl; have hcz17_1 : w16.cell? ⟨gb225, 1, none⟩ = some (.string a0_1) := (blk_cell BK225.out 1).trans rfl; have hfz17_0 := blk_frozen BK225.out 0; have hfz17_1 := blk_frozen BK225.out 1))
    go_ret
    exact Z17
   ·rw [if_neg c15] at H
    exact Z33
  ·rw [if_neg c14] at H
   have c14b0 : (a0_0 == 5) = false := beq_eq_false_iff_ne.mpr c14
   have c14b1 : (a0_0 != 5) = true := bne_iff_ne.mpr c14
   by_cases c18 : a0_0 = 7
   ·rw [if_pos c18] at H
    have c18b0 : (a0_0 == 7) = true := beq_iff_eq.mpr c18
    have c18b1 : (a0_0 != 7) = false := bne_eq_false_iff_eq.mpr c18
    clear c18
    obtain rfl := Option.some.inj H
    go_enter Tryd.func90, Tryd.ntmps90
    go_wp2_with (first | ((with_reducible refine gate_dst (N := 1) rfl ?_); refine box_event ?hg (N := 1) ?hd (cs := #[.int .i64 a0_0, .string a0_1]) (t := 88) ?hr ?_; (case hd => rfl); (case hg => rfl); (case hr => exact Z18); intro gb225 hg w19 hbox hb; have n0_ := Aside0.mk (below_step Z2 hb); have n1_ := Aside0.mk (hbox); have n2_ := Aside0.mk ((by rw [hg]; exact (below_size Z2) : w.heap.size ≤ gb225)); have n3_ := Aside0.mk ((by rw [hg]; exact (below_size Z2) : w.heap.size ≤ gb225)); clear HB; have HB := n0_; have BK225 := n1_; have GW225 := n2_; have GE225 := n3_; clear n0_ n1_ n2_ n3_; clear hb hbox hg; have hcz20_0 : w19.cell? ⟨gb225, 0, none⟩ = some (.int .i64 a0_0) := (blk_cell BK225.out 0).trans rfl; have hcz20_1 : w19.cell? ⟨gb225, 1, none⟩ = some (.string a0_1) := (blk_cell BK225.out 1).trans rfl; have hfz20_0 := blk_frozen BK225.out 0; have hfz20_1 := blk_frozen BK225.out 1))
    go_ret
    exact Z17
   ·rw [if_neg c18] at H
    have c18b0 : (a0_0 == 7) = false := beq_eq_false_iff_ne.mpr c18
    have c18b1 : (a0_0 != 7) = true := bne_iff_ne.mpr c18
    by_cases c21 : a0_0 = 3
    ·rw [if_pos c21] at H
     have c21b0 : (a0_0 == 3) = true := beq_iff_eq.mpr c21
     have c21b1 : (a0_0 != 3) = false := bne_eq_false_iff_eq.mpr c21
     clear c21
     obtain rfl := Option.some.inj H
     go_enter Tryd.func90, Tryd.ntmps90
     go_wp2_with (first | ((with_reducible refine gate_dst (N := 1) rfl ?_); refine box_event ?hg (N := 1) ?hd (cs := #[.int .i64 a0_0, .string a0_1]) (t := 88) ?hr ?_; (case hd => rfl); (case hg => rfl); (case hr => exact Z18); intro gb225 hg w22 hbox hb; have n0_ := Aside0.mk (below_step Z2 hb); have n1_ := Aside0.mk (hbox); have n2_ := Aside0.mk ((by rw [hg]; exact (below_size Z2) : w.heap.size ≤ gb225)); have n3_ := Aside0.mk ((by rw [hg]; exact (below_size Z2) : w.heap.size ≤ gb225)); clear HB; have HB := n0_; have BK225 := n1_; have GW225 := n2_; have GE225 := n3_; clear n0_ n1_ n2_ n3_; clear hb hbox hg; have hcz23_0 : w22.cell? ⟨gb225, 0, none⟩ = some (.int .i64 a0_0) := (blk_cell BK225.out 0).trans rfl; have hcz23_1 : w22.cell? ⟨gb225, 1, none⟩ = some (.string a0_1) := (blk_cell BK225.out 1).trans rfl; have hfz23_0 := blk_frozen BK225.out 0; have hfz23_1 := blk_frozen BK225.out 1))
     go_ret
     exact Z17
    ·rw [if_neg c21] at H
     have c21b0 : (a0_0 == 3) = false := beq_eq_false_iff_ne.mpr c21
     have c21b1 : (a0_0 != 3) = true := bne_iff_ne.mpr c21
     by_cases c24 : a0_0 = 4
     ·rw [if_pos c24] at H
      have c24b0 : (a0_0 == 4) = true := beq_iff_eq.mpr c24
      have c24b1 : (a0_0 != 4) = false := bne_eq_false_iff_eq.mpr c24
      clear c24
      obtain rfl := Option.some.inj H
      go_enter Tryd.func90, Tryd.ntmps90
      go_wp2_with (first | ((with_reducible refine gate_dst (N := 1) rfl ?_); refine box_event ?hg (N := 1) ?hd (cs := #[.int .i64 a0_0, .string a0_1]) (t := 88) ?hr ?_; (case hd => rfl); (case hg => rfl); (case hr => exact Z18); intro gb225 hg w25 hbox hb; have n0_ := Aside0.mk (below_step Z2 hb); have n1_ := Aside0.mk (hbox); have n2_ := Aside0.mk ((by rw [hg]; exact (below_size Z2) : w.heap.size ≤ gb225)); have n3_ := Aside0.mk ((by rw [hg]; exact (below_size Z2) : w.heap.size ≤ gb225)); clear HB; have HB := n0_; have BK225 := n1_; have GW225 := n2_; have GE225 := n3_; clear n0_ n1_ n2_ n3_; clear hb hbox hg; have hcz26_0 : w25.cell? ⟨gb225, 0, none⟩ = some (.int .i64 a0_0) := (blk_cell BK225.out 0).trans rfl; have hcz26_1 : w25.cell? ⟨gb225, 1, none⟩ = some (.string a0_1) := (blk_cell BK225.out 1).trans rfl; have hfz26_0 := blk_frozen BK225.out 0; have hfz26_1 := blk_frozen BK225.out 1))
      go_ret
      exact Z17
     ·rw [if_neg c24] at H
      have c24b0 : (a0_0 == 4) = false := beq_eq_false_iff_ne.mpr c24
      have c24b1 : (a0_0 != 4) = true := bne_iff_ne.mpr c24
      by_cases c27 : a0_0 = 6
      ·rw [if_pos c27] at H
       have c27b0 : (a0_0 == 6) = true := beq_iff_eq.mpr c27
       have c27b1 : (a0_0 != 6) = false := bne_eq_false_iff_eq.mpr c27
       clear c27
       obtain rfl := Option.some.inj H
       go_enter Tryd.func90, Tryd.ntmps90
       go_wp2_with (first | ((with_reducible refine gate_dst (N := 1) rfl ?_); refine box_event ?hg (N := 1) ?hd (cs := #[.int .i64 a0_0, .string a0_1]) (t := 88) ?hr ?_; (case hd => rfl); (case hg => rfl); (case hr => exact Z18); intro gb225 hg w28 hbox hb; have n0_ := Aside0.mk (below_step Z2 hb); have n1_ := Aside0.mk (hbox); have n2_ := Aside0.mk ((by rw [hg]; exact (below_size Z2) : w.heap.size ≤ gb225)); have n3_ := Aside0.mk ((by rw [hg]; exact (below_size Z2) : w.heap.size ≤ gb225)); clear HB; have HB := n0_; have BK225 := n1_; have GW225 := n2_; have GE225 := n3_; clear n0_ n1_ n2_ n3_; clear hb hbox hg; have hcz29_0 : w28.cell? ⟨gb225, 0, none⟩ = some (.int .i64 a0_0) := (blk_cell BK225.out 0).trans rfl; have hcz29_1 : w28.cell? ⟨gb225, 1, none⟩ = some (.string a0_1) := (blk_cell BK225.out 1).trans rfl; have hfz29_0 := blk_frozen BK225.out 0; have hfz29_1 := blk_frozen BK225.out 1))
       go_ret
       exact Z17
      ·rw [if_neg c27] at H
       have c27b0 : (a0_0 == 6) = false := beq_eq_false_iff_ne.mpr c27
       have c27b1 : (a0_0 != 6) = true := bne_iff_ne.mpr c27
       by_cases c30 : a0_0 = 8
       ·rw [if_pos c30] at H
        have c30b0 : (a0_0 == 8) = true := beq_iff_eq.mpr c30
        have c30b1 : (a0_0 != 8) = false := bne_eq_false_iff_eq.mpr c30
        clear c30
        obtain rfl := Option.some.inj H
        go_enter Tryd.func90, Tryd.ntmps90
        go_wp2_with (first | ((with_reducible refine gate_dst (N := 1) rfl ?_); refine box_event ?hg (N := 1) ?hd (cs := #[.int .i64 a0_0, .string a0_1]) (t := 88) ?hr ?_; (case hd => rfl); (case hg => rfl); (case hr => exact Z18); intro gb225 hg w31 hbox hb; have n0_ := Aside0.mk (below_step Z2 hb); have n1_ := Aside0.mk (hbox); have n2_ := Aside0.mk ((by rw [hg]; exact (below_size Z2) : w.heap.size ≤ gb225)); have n3_ := Aside0.mk ((by rw [hg]; exact (below_size Z2) : w.heap.size ≤ gb225)); clear HB; have HB := n0_; have BK225 := n1_; have GW225 := n2_; have GE225 := n3_; clear n0_ n1_ n2_ n3_; clear hb hbox hg; have hcz32_0 : w31.cell? ⟨gb225, 0, none⟩ = some (.int .i64 a0_0) := (blk_cell BK225.out 0).trans rfl; have hcz32_1 : w31.cell? ⟨gb225, 1, none⟩ = some (.string a0_1) := (blk_cell BK225.out 1).trans rfl; have hfz32_0 := blk_frozen BK225.out 0; have hfz32_1 := blk_frozen BK225.out 1))
        go_ret
        exact Z17
       ·rw [if_neg c30] at H
        have c30b0 : (a0_0 == 8) = false := beq_eq_false_iff_ne.mpr c30
        have c30b1 : (a0_0 != 8) = true := bne_iff_ne.mpr c30
        by_cases c33 : a0_0 = 9
        ·rw [if_pos c33] at H
         have c33b0 : (a0_0 == 9) = true := beq_iff_eq.mpr c33
         have c33b1 : (a0_0 != 9) = false := bne_eq_false_iff_eq.mpr c33
         clear c33
         obtain rfl := Option.some.inj H
         go_enter Tryd.func90, Tryd.ntmps90
         go_wp2_with (first | ((with_reducible refine gate_dst (N := 1) rfl ?_); refine box_event ?hg (N := 1) ?hd (cs := #[.int .i64 a0_0, .string a0_1]) (t := 88) ?hr ?_; (case hd => rfl); (case hg => rfl); (case hr => exact Z18); intro gb225 hg w34 hbox hb; have n0_ := Aside0.mk (below_step Z2 hb); have n1_ := Aside0.mk (hbox); have n2_ := Aside0.mk ((by rw [hg]; exact (below_size Z2) : w.heap.size ≤ gb225)); have n3_ := Aside0.mk ((by rw [hg]; exact (below_size Z2) : w.heap.size ≤ gb225)); clear HB; have HB := n0_; have BK225 := n1_; have GW225 := n2_; have GE225 := n3_; clear n0_ n1_ n2_ n3_; clear hb hbox hg; have hcz35_0 : w34.cell? ⟨gb225, 0, none⟩ = some (.int .i64 a0_0) := (blk_cell BK225.out 0).trans rfl; have hcz35_1 : w34.cell? ⟨gb225, 1, none⟩ = some (.string a0_1) := (blk_cell BK225.out 1).trans rfl; have hfz35_0 := blk_frozen BK225.out 0; have hfz35_1 := blk_frozen BK225.out 1))
         go_ret
         exact Z17
        ·rw [if_neg c33] at H
         have c33b0 : (a0_0 == 9) = false := beq_eq_false_iff_ne.mpr c33
         have c33b1 : (a0_0 != 9) = true := bne_iff_ne.mpr c33
         obtain rfl := Option.some.inj H
         go_enter Tryd.func90, Tryd.ntmps90
         go_wp2_with (first | ((with_reducible refine gate_dst (N := 1) rfl ?_); refine box_event ?hg (N := 1) ?hd (cs := #[.int .i64 a0_0, .string a0_1]) (t := 88) ?hr ?_; (case hd => rfl); (case hg => rfl); (case hr => exact Z18); intro gb225 hg w36 hbox hb; have n0_ := Aside0.mk (below_step Z2 hb); have n1_ := Aside0.mk (hbox); have n2_ := Aside0.mk ((by rw [hg]; exact (below_size Z2) : w.heap.size ≤ gb225)); have n3_ := Aside0.mk ((by rw [hg]; exact (below_size Z2) : w.heap.size ≤ gb225)); clear HB; have HB := n0_; have BK225 := n1_; have GW225 := n2_; have GE225 := n3_; clear n0_ n1_ n2_ n3_; clear hb hbox hg; have hcz37_0 : w36.cell? ⟨gb225, 0, none⟩ = some (.int .i64 a0_0) := (blk_cell BK225.out 0).trans rfl; have hcz37_1 : w36.cell? ⟨gb225, 1, none⟩ = some (.string a0_1) := (blk_cell BK225.out 1).trans rfl; have hfz37_0 := blk_frozen BK225.out 0; have hfz37_1 := blk_frozen BK225.out 1))
         go_ret
         exact Z17
end Go.Proofs.YtmbhjogohfcjgaaDoor.P
