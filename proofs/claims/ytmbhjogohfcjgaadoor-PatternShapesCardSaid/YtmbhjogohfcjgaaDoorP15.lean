-- Laid by wip/tools/xprint.py, a program of this session's, over the kit's print. Lean checks it.
import Derived.Test.YtmbhjogohfcjgaaDoorP0
import Derived.Test.YtmbhjogohfcjgaaDoorP5
import Derived.Test.YtmbhjogohfcjgaaDoorP6
import Derived.Test.YtmbhjogohfcjgaaDoorP7
import Derived.Test.YtmbhjogohfcjgaaDoorP8
import Derived.Test.YtmbhjogohfcjgaaDoorPn
import Derived.Test.YtmbhjogohfcjgaaDoorPs
namespace Go.Proofs.YtmbhjogohfcjgaaDoor.P
open Go.RowKit Go.Proofs.YtmbhjogohfcjgaaDoorW.PrintWords Go.Proofs.YtmbhjogohfcjgaaDoorW.PrintLast Go.Proofs.YtmbhjogohfcjgaaDoorW.PrintMore
attribute [local go_sem] max2_int min2_int max_two min_two max_three min_three max_four min_four   -- for this text's walks alone
set_option linter.unusedVariables false
set_option linter.unusedSimpArgs false
mutual
def tabardlaw13_PatternShapes.j0 : Nat → Bool → Bool → List (S62) → Option (Bool)
 | 0, _, _, _ => none
 | k + 1, x3, x15, x252000 => if x15 = true then (some x3) else ((tabardlaw13_sections.f k x252000).bind fun t254 => (tabardlaw13_PatternShapes.l0 k t254 0 x252000))
def tabardlaw13_PatternShapes.l0 : Nat → List (S66) → Int → List (S62) → Option (Bool)
 | 0, _, _, _ => none
 | k + 1, x5, x6, x252000 => if x6 < (x5.length : Int) then (if 0 ≤ x6 then (if x6 < (x252000.length : Int) then ((pattern_Shape.f ((rd_T62 x252000 x6).f0) ((rd_T62 x252000 x6).f1) ((rd_T62 x252000 x6).f2)).bind fun t260 => ((tabardref13_Shape.f k ((rd_T66 x5 x6).f0) ((rd_T66 x5 x6).f1) ((rd_T66 x5 x6).f2)).bind fun t262 => (if t260 = t262 then (tabardlaw13_PatternShapes.l0 k x5 (wrap64 (x6 + 1)) x252000) else (none)))) else (none)) else (none)) else ((pattern_Right.f k x252000).bind fun t257 => ((tabardref13_Right.f k x5).bind fun t258 => (some (t257 == t258))))
end
def tabardlaw13_PatternShapes.f (k : Nat) (l0_0 : List (S62)) : Option (Bool) := (tabardlaw13_shown.f).bind fun t252 => ((tabardlaw13_small.f k l0_0).bind fun t253 => (if t252 = true then (tabardlaw13_PatternShapes.j0 k t252 (!t253) l0_0) else (tabardlaw13_PatternShapes.j0 k t252 true l0_0)))
theorem tabardlaw13_PatternShapes.mono_l : ∀ k, (∀ y0 y1 y2, LeO (tabardlaw13_PatternShapes.j0 k y0 y1 y2) (tabardlaw13_PatternShapes.j0 (k + 1) y0 y1 y2)) ∧ (∀ y0 y1 y2, LeO (tabardlaw13_PatternShapes.l0 k y0 y1 y2) (tabardlaw13_PatternShapes.l0 (k + 1) y0 y1 y2))
 | 0 => ⟨fun _ _ _ r h => by simp [tabardlaw13_PatternShapes.j0] at h, fun _ _ _ r h => by simp [tabardlaw13_PatternShapes.l0] at h⟩
 | k + 1 => by
  obtain ⟨ih0, ih1⟩ := tabardlaw13_PatternShapes.mono_l k
  refine ⟨?_, ?_⟩
  ·intro y0 y1 y2
   unfold tabardlaw13_PatternShapes.j0
   repeat' first
   | (with_reducible exact ih0 _ _ _)
   | (with_reducible exact ih1 _ _ _)
   | (with_reducible exact pattern_Right.mono _ _)
   | (with_reducible exact tabardlaw13_sections.mono _ _)
   | (with_reducible exact tabardlaw13_small.mono _ _)
   | (with_reducible exact tabardref13_Right.mono _ _)
   | (with_reducible exact tabardref13_Shape.mono _ _ _ _)
   | (with_reducible exact LeO.refl _)
   | (with_reducible exact LeO.none _)
   | (with_reducible refine LeO.ite ?_ ?_)
   | (with_reducible refine LeO.bind ?_ (fun _ => ?_))
   | exact ih0 _ _ _
   | exact ih1 _ _ _
   | exact pattern_Right.mono _ _
   | exact tabardlaw13_sections.mono _ _
   | exact tabardlaw13_small.mono _ _
   | exact tabardref13_Right.mono _ _
   | exact tabardref13_Shape.mono _ _ _ _
   | exact LeO.none _
   | refine LeO.ite ?_ ?_
   | refine LeO.bind ?_ (fun _ => ?_)
  ·intro y0 y1 y2
   unfold tabardlaw13_PatternShapes.l0
   repeat' first
   | (with_reducible exact ih0 _ _ _)
   | (with_reducible exact ih1 _ _ _)
   | (with_reducible exact pattern_Right.mono _ _)
   | (with_reducible exact tabardlaw13_sections.mono _ _)
   | (with_reducible exact tabardlaw13_small.mono _ _)
   | (with_reducible exact tabardref13_Right.mono _ _)
   | (with_reducible exact tabardref13_Shape.mono _ _ _ _)
   | (with_reducible exact LeO.refl _)
   | (with_reducible exact LeO.none _)
   | (with_reducible refine LeO.ite ?_ ?_)
   | (with_reducible refine LeO.bind ?_ (fun _ => ?_))
   | exact ih0 _ _ _
   | exact ih1 _ _ _
   | exact pattern_Right.mono _ _
   | exact tabardlaw13_sections.mono _ _
   | exact tabardlaw13_small.mono _ _
   | exact tabardref13_Right.mono _ _
   | exact tabardref13_Shape.mono _ _ _ _
   | exact LeO.none _
   | refine LeO.ite ?_ ?_
   | refine LeO.bind ?_ (fun _ => ?_)
theorem tabardlaw13_PatternShapes.mono : ∀ a0 k, LeO (tabardlaw13_PatternShapes.f k a0) (tabardlaw13_PatternShapes.f (k + 1) a0) := by
 intro a0 k
 obtain ⟨ih0, ih1⟩ := tabardlaw13_PatternShapes.mono_l k
 unfold tabardlaw13_PatternShapes.f
 repeat' first
   | (with_reducible exact ih0 _ _ _)
   | (with_reducible exact ih1 _ _ _)
   | (with_reducible exact pattern_Right.mono _ _)
   | (with_reducible exact tabardlaw13_sections.mono _ _)
   | (with_reducible exact tabardlaw13_small.mono _ _)
   | (with_reducible exact tabardref13_Right.mono _ _)
   | (with_reducible exact tabardref13_Shape.mono _ _ _ _)
   | (with_reducible exact LeO.refl _)
   | (with_reducible exact LeO.none _)
   | (with_reducible refine LeO.ite ?_ ?_)
   | (with_reducible refine LeO.bind ?_ (fun _ => ?_))
   | exact ih0 _ _ _
   | exact ih1 _ _ _
   | exact pattern_Right.mono _ _
   | exact tabardlaw13_sections.mono _ _
   | exact tabardlaw13_small.mono _ _
   | exact tabardref13_Right.mono _ _
   | exact tabardref13_Shape.mono _ _ _ _
   | exact LeO.none _
   | refine LeO.ite ?_ ?_
   | refine LeO.bind ?_ (fun _ => ?_)
def tabardlaw13_PatternShapes.T9 : Bool × List (List Nat × List Nat) := (true, [([], []), ([0], [0]), ([], []), ([1, 2], [1, 2]), ([3], [3]), ([4], [4]), ([], []), ([], []), ([6, 7], [6, 7]), ([8], [8]), ([9, 5], [9]), ([5, 10], [5, 10])])
def tabardlaw13_PatternShapes.B9 : List Nat := [0, 1, 0, 7, 15, 31, 0, 0, 192, 448, 1023, 2047]
theorem tabardlaw13_PatternShapes.tab9 : rtab .any (opsOf Tryd.f7 9) = tabardlaw13_PatternShapes.T9 := by kernel_rfl
theorem tabardlaw13_PatternShapes.bits9 : waitsOk tabardlaw13_PatternShapes.T9.2 tabardlaw13_PatternShapes.B9 = true := by kernel_rfl
set_option maxHeartbeats 8000000 in
set_option maxRecDepth 100000 in
theorem tabardlaw13_PatternShapes.calls (k : Nat) (A0_0 : Option Addr) (c0_0 : Nat) (l0_0 : List (S62)) (r : Bool) (w : World) (hGL : GL w) (hr0_0 : Kd.C k62 w A0_0 l0_0.length l0_0) (hc0_0 : l0_0.length ≤ c0_0) (h : tabardlaw13_PatternShapes.f k l0_0 = some r) :
  Calls Tryd.prog 7 #[.agg #[.slice A0_0 l0_0.length c0_0]] w fun e w' => e = .returned (.bool r) ∧ Below w.heap.size w w' := by
 have hu55 := Tryd.underlying55
 have hu62 := Tryd.underlying62
 have hu66 := Tryd.underlying66
 have HGL := Aside0.mk hGL
 clear hGL
 have HR0_0 := Aside0.mk hr0_0
 have HC0_0 := Aside0.mk hc0_0
 clear hr0_0 hc0_0
 have HB := Aside0.mk (Below.refl w.heap.size w)
 have H : ((tabardlaw13_shown.f).bind fun t252 => ((tabardlaw13_small.f k l0_0).bind fun t253 => (if t252 = true then (tabardlaw13_PatternShapes.j0 k t252 (!t253) l0_0) else (tabardlaw13_PatternShapes.j0 k t252 true l0_0)))) = some r := h
 clear h
 replace H := Option.bind_eq_some_iff.mp H
 obtain ⟨t252, A20, H⟩ := H
 replace H : ((tabardlaw13_small.f k l0_0).bind fun t253 => (if t252 = true then (tabardlaw13_PatternShapes.j0 k t252 (!t253) l0_0) else (tabardlaw13_PatternShapes.j0 k t252 true l0_0))) = some r := H
 have A2 := Aside0.mk A20
 clear A20
 replace H := Option.bind_eq_some_iff.mp H
 obtain ⟨t253, A30, H⟩ := H
 replace H : (if t252 = true then (tabardlaw13_PatternShapes.j0 k t252 (!t253) l0_0) else (tabardlaw13_PatternShapes.j0 k t252 true l0_0)) = some r := H
 have A3 := Aside0.mk A30
 clear A30
 have HC4 := Aside0.mk H
 clear H
 go_enter Tryd.func7, Tryd.ntmps7
 go_upto_region 3 with (first | ((with_reducible refine gate_dst (N := 1) rfl ?_); refine box_event ?hg (N := 1) ?hd (cs := #[.slice A0_0 l0_0.length c0_0]) (t := 55) ?hr ?_; (case hd => rfl); (case hg => rfl); (case hr => exact Z14); intro gb251 hg w5 hbox hb; have n0_ := Aside0.mk (below_step Z2 hb); have n1_ := Aside0.mk (hbox); have n2_ := Aside0.mk ((by rw [hg]; exact (below_size Z2) : w.heap.size ≤ gb251)); have n3_ := Aside0.mk ((by rw [hg]; exact (below_size Z2) : w.heap.size ≤ gb251)); clear HB; have HB := n0_; have BK251 := n1_; have GW251 := n2_; have GE251 := n3_; clear n0_ n1_ n2_ n3_; clear hb hbox hg) | ((with_reducible refine gate_callee (f := 28) rfl ?_); refine goesL_ (some 7) rfl rfl Tryd.func28 (by kernel_rfl) rfl #[] rfl Z1 ?_; (with_reducible refine (tabardlaw13_shown.calls  t252 _ ?side1 A2.out).mono ?_); (case side1 => exact GL.below HGL.out Z20); rintro e w6 ⟨rfl, hb⟩; refine ⟨_, rfl, ?_⟩; have n0_ := Aside0.mk (blk_below (g := gb251) (o := .cells #[.slice A0_0 l0_0.length c0_0] 55 (0, 0)) Z42 hb); have n1_ := Aside0.mk (below_step Z20 hb); clear BK251; clear HB; have BK251 := n0_; have HB := n1_; clear n0_ n1_; (try clear hb); (try clear hb2); (try clear hk); (try clear hi); have hcz7_0 : w6.cell? ⟨gb251, 0, none⟩ = some (.slice A0_0 l0_0.length c0_0) := (blk_cell BK251.out 0).trans rfl; have hfz7_0 := blk_frozen BK251.out 0) | ((with_reducible refine gate_callee (f := 29) rfl ?_); refine goesL_ (some 9) rfl rfl Tryd.func29 (by kernel_rfl) rfl #[.agg #[.slice A0_0 l0_0.length c0_0]] rfl Z1 ?_; (with_reducible refine (tabardlaw13_small.calls k _ _ l0_0 t253 _ ?side1 ?side2 A3.out).mono ?_); (case side1 => exact Z4); (case side2 => exact Z38); rintro e w8 ⟨rfl, hb⟩; refine ⟨_, rfl, ?_⟩; have n0_ := Aside0.mk (blk_below (g := gb251) (o := .cells #[.slice A0_0 l0_0.length c0_0] 55 (0, 0)) Z42 hb); have n1_ := Aside0.mk (below_step Z20 hb); clear BK251; clear HB; have BK251 := n0_; have HB := n1_; clear n0_ n1_; (try clear hb); (try clear hb2); (try clear hk); (try clear hi)))
 (try simp only [Act.put, List.setIfInBounds_toArray, List.set_cons_zero, List.set_cons_succ])
 go_cut [15] (fun v15 wc => ∃ (kq : Nat) (x15_3 : Bool), v15 = .bool x15_3 ∧ Aside0 (tabardlaw13_PatternShapes.j0 kq t252 x15_3 l0_0 = some r) ∧ Aside0 (kq ≤ k) ∧ Aside0 (wc.heap[gb251]? = some (.cells #[(.slice A0_0 l0_0.length c0_0)] 55 (0, 0))) ∧ Aside0 (Below w.heap.size w wc))
 case first =>
  have H := HC4.out
  clear HC4
  by_cases c9 : t252 = true
  ·subst c9
   have H1 : (tabardlaw13_PatternShapes.j0 k true (!t253) l0_0) = some r := by rw [if_pos rfl] at H; exact H
   clear H
   have H := H1
   clear H1
   have H' := Aside0.mk H
   clear H
   go_wp2
   go_meet
   case rel => exact ⟨_, (!t253), Z5, H', ⟨by first | omega | exact Nat.le_refl _⟩, ⟨by (with_reducible repeat (first | refine blk_drewN ?_ _ | refine blk_drew ?_ | refine blk_alloc ?_ _)); exact BK251.out⟩, ⟨by repeat (first | (with_reducible first | exact HB.out | apply below_alloc | apply pw_below_drewN | apply below_drew1 | refine below_set ?_ GE251.out) | exact HB.out)⟩⟩
  ·replace c9 := Bool.eq_false_iff.mpr c9
   subst c9
   have H1 : (tabardlaw13_PatternShapes.j0 k false true l0_0) = some r := by rw [if_neg (show ¬ (false = true) by decide)] at H; exact H
   clear H
   have H := H1
   clear H1
   have H' := Aside0.mk H
   clear H
   go_wp2
   go_meet
   case rel => exact ⟨_, (true), Z5, H', ⟨by first | omega | exact Nat.le_refl _⟩, ⟨by (with_reducible repeat (first | refine blk_drewN ?_ _ | refine blk_drew ?_ | refine blk_alloc ?_ _)); exact BK251.out⟩, ⟨by repeat (first | (with_reducible first | exact HB.out | apply below_alloc | apply pw_below_drewN | apply below_drew1 | refine below_set ?_ GE251.out) | exact HB.out)⟩⟩
 case rest =>
  clear HC4
  try clear c2
  try clear p2
  try clear c7
  try clear c9
  try clear hcz7_0
  try clear hfz7_0
  obtain ⟨kq, x15_3, rfl, HA, HJ3, BK251, HB⟩ := hcut
  cases kq with
  | zero => exact absurd HA.out (by simp [tabardlaw13_PatternShapes.j0])
  | succ kj3 =>
   have H := HA.out
   clear HA
   simp only [tabardlaw13_PatternShapes.j0] at H
   by_cases c10 : x15_3 = true
   ·subst c10
    have H1 : (some t252) = some r := by rw [if_pos rfl] at H; exact H
    clear H
    have H := H1
    clear H1
    obtain rfl := Option.some.inj H
    go_wp2
    go_ret
    exact Z65
   ·replace c10 := Bool.eq_false_iff.mpr c10
    subst c10
    have H1 : ((tabardlaw13_sections.f kj3 l0_0).bind fun t254 => (tabardlaw13_PatternShapes.l0 kj3 t254 0 l0_0)) = some r := by rw [if_neg (show ¬ (false = true) by decide)] at H; exact H
    clear H
    have H := H1
    clear H1
    replace H := Option.bind_eq_some_iff.mp H
    obtain ⟨t254, A110, H⟩ := H
    replace H : (tabardlaw13_PatternShapes.l0 kj3 t254 0 l0_0) = some r := H
    have A11 := Aside0.mk A110
    clear A110
    have H' := Aside0.mk H
    clear H
    have hcz12_0 : wc.cell? ⟨gb251, 0, none⟩ = some (.slice A0_0 l0_0.length c0_0) := (blk_cell BK251.out 0).trans rfl
    have hfz12_0 := blk_frozen BK251.out 0
    go_wp2_with (first | ((with_reducible refine gate_callee (f := 30) rfl ?_); refine goesL_ (some 18) rfl rfl Tryd.func30 (by kernel_rfl) rfl #[.agg #[.slice A0_0 l0_0.length c0_0]] rfl Z1 ?_; (with_reducible refine (tabardlaw13_sections.calls kj3 _ _ l0_0 t254 _ ?side1 ?side2 A11.out).mono ?_); (case side1 => exact Z4); (case side2 => exact Z38); rintro e w13 ⟨v255, rfl, ho0, hb⟩; refine ⟨_, rfl, ?_⟩; have n0_ := Aside0.mk (Kd.S_lower ho0 (below_size Z20)); have n1_ := Aside0.mk (blk_below (g := gb251) (o := .cells #[.slice A0_0 l0_0.length c0_0] 55 (0, 0)) Z42 hb); have n2_ := Aside0.mk (below_step Z20 hb); clear BK251; clear HB; have HO256 := n0_; have BK251 := n1_; have HB := n2_; clear n0_ n1_ n2_; (try clear hb); (try clear hb2); (try clear hk); (try clear hi); (try clear ho0)))
    go_loopg [6] kj3 (fun kq v6 w' => ∃ (x6_2 : Int), v6 = .int .i64 x6_2 ∧ Aside0 (tabardlaw13_PatternShapes.l0 kq t254 x6_2 l0_0 = some r) ∧ Aside0 (kq ≤ kj3) ∧ Aside0 (Kd.S k66 66 w' w.heap.size (fun _ => True) v255 t254) ∧ Aside0 (w'.heap[gb251]? = some (.cells #[(.slice A0_0 l0_0.length c0_0)] 55 (0, 0))) ∧ Aside0 (Below w.heap.size w w'))
    case atStart => exact ⟨(0), Z5, H', ⟨Nat.le_refl _⟩, ⟨by (with_reducible repeat (first | apply Kd.S_alloc | apply Kd.S_drewN | apply Kd.S_drew)); exact HO256.out⟩, ⟨by (with_reducible repeat (first | refine blk_drewN ?_ _ | refine blk_drew ?_ | refine blk_alloc ?_ _)); exact BK251.out⟩, ⟨by repeat (first | (with_reducible first | exact HB.out | apply below_alloc | apply pw_below_drewN | apply below_drew1 | refine below_set ?_ GE251.out) | exact HB.out)⟩⟩
    case round =>
     clear H'
     try clear c1
     try clear c2
     try clear p2
     try clear c3
     try clear c7
     try clear c9
     try clear c10
     try clear hcz12_0
     try clear hcz7_0
     try clear hfz12_0
     try clear hfz7_0
     try clear p2
     obtain ⟨x6_2, rfl, HA, HK2, HO_5, BK251, HB⟩ := hrel
     cases gk with
     | zero => exact absurd HA.out (by simp [tabardlaw13_PatternShapes.l0])
     | succ k2 =>
      have H := HA.out
      clear HA
      simp only [tabardlaw13_PatternShapes.l0] at H
      by_cases c14 : x6_2 < (t254.length : Int)
      ·rw [if_pos c14] at H
       have c14b0 : decide (x6_2 < (t254.length : Int)) = true := decide_eq_true c14
       clear c14
       by_cases c15 : 0 ≤ x6_2
       ·rw [if_pos c15] at H
        have c15b0 : decide (0 ≤ x6_2) = true := decide_eq_true c15
        clear c15
        by_cases c16 : x6_2 < (l0_0.length : Int)
        ·rw [if_pos c16] at H
         have c16b0 : decide (x6_2 < (l0_0.length : Int)) = true := decide_eq_true c16
         clear c16
         replace H := Option.bind_eq_some_iff.mp H
         obtain ⟨t260, A170, H⟩ := H
         replace H : ((tabardref13_Shape.f k2 ((rd_T66 t254 x6_2).f0) ((rd_T66 t254 x6_2).f1) ((rd_T66 t254 x6_2).f2)).bind fun t262 => (if t260 = t262 then (tabardlaw13_PatternShapes.l0 k2 t254 (wrap64 (x6_2 + 1)) l0_0) else (none))) = some r := H
         have A17 := Aside0.mk A170
         clear A170
         replace H := Option.bind_eq_some_iff.mp H
         obtain ⟨t262, A180, H⟩ := H
         replace H : (if t260 = t262 then (tabardlaw13_PatternShapes.l0 k2 t254 (wrap64 (x6_2 + 1)) l0_0) else (none)) = some r := H
         have A18 := Aside0.mk A180
         clear A180
         by_cases c19 : t260 = t262
         ·rw [if_pos c19] at H
          have c19b0 : (t260 == t262) = true := beq_iff_eq.mpr c19
          have c19b1 : (t260 != t262) = false := bne_eq_false_iff_eq.mpr c19
          clear c19
          have H' := Aside0.mk H
          clear H
          obtain ⟨Ao20, co20, eo20⟩ := Kd.S_slice HO_5.out
          subst eo20
          try go_wp2
          have n0_ := Aside0.mk (Kd.S_drew HO_5.out)
          have n1_ := Aside0.mk (blk_drew BK251.out)
          have n2_ := Aside0.mk (below_drew1 HB.out)
          clear HO_5
          clear BK251
          clear HB
          have HO_5 := n0_
          have BK251 := n1_
          have HB := n2_
          clear n0_ n1_ n2_
          have p259 : 0 ≤ (x6_2 : Int) := of_decide_eq_true Z3
          have q259 : x6_2 < (l0_0.length : Int) := of_decide_eq_true Z3
          obtain ⟨ad259, A259_0, c259_0, e259, hx259_0, hx259_1, hx259_2, hl259_0, hi259_0⟩ := at_T62 HR0_0.out x6_2 p259 q259
          have hw259_2 := hx259_2
          have hw259_1 := hx259_1
          have hw259_0 := hx259_0
          cases e259
          replace hx259_0 := (HB.out.cell (World.block_lt_of_cell? w _ hx259_0)).trans hx259_0
          replace hx259_1 := (HB.out.cell (World.block_lt_of_cell? w _ hx259_1)).trans hx259_1
          replace hx259_2 := (HB.out.cell (World.block_lt_of_cell? w _ hx259_2)).trans hx259_2
          have HR259_0 := Aside0.mk hi259_0
          have HC259_0 := Aside0.mk hl259_0
          clear hi259_0 hl259_0
          replace p259 := eq_true p259
          replace q259 := eq_true q259
          have p261 : 0 ≤ (x6_2 : Int) := of_decide_eq_true Z3
          have q261 : x6_2 < (t254.length : Int) := of_decide_eq_true Z3
          obtain ⟨ad261, A261_0, c261_0, e261, hx261_0, hx261_1, hx261_2, hl261_0, hi261_0⟩ := at_T66 (Kd.S_reads' HO_5.out).2.2 x6_2 p261 q261
          cases e261
          obtain ⟨ce261, hce261, hMe261, hcc261⟩ := Kd.S_get HO_5.out z66 x6_2 p261 (by first | exact q261 | exact of_decide_eq_true Z3 | (have e_ := (Kd.S_reads' HO_5.out).1; omega))
          obtain ⟨ve261_0, rfl, ge261_0⟩ := k66_openM hMe261
          have hv261_0 := hcc261 0 _ rfl
          rw [Nat.add_zero] at hv261_0
          replace hv261_0 := Option.some.inj (hv261_0.symm.trans hx261_0)
          rw [hv261_0] at ge261_0
          have HL261_0 := Aside0.mk (show Kd.R k98 98 _ _ _ _ ((rd_T66 t254 x6_2).f0) from ge261_0)
          clear hv261_0 ge261_0
          clear hcc261 hce261
          have HR261_0 := Aside0.mk hi261_0
          have HC261_0 := Aside0.mk hl261_0
          clear hi261_0 hl261_0
          replace p261 := eq_true p261
          replace q261 := eq_true q261
          refine start_ (n := 12) (S := fun w' => w'.cell? ⟨gb251, 0, none⟩ = some (.slice (some ad259) l0_0.length c0_0) ∧ w'.cell? (ad259.add ((x6_2).toNat * 3)) = some (.slice A259_0 ((rd_T62 l0_0 x6_2).f0).length c259_0) ∧ w'.cell? ⟨(ad259.add ((x6_2).toNat * 3)).block, (ad259.add ((x6_2).toNat * 3)).off + 1, none⟩ = some (.bool ((rd_T62 l0_0 x6_2).f1)) ∧ w'.cell? ⟨(ad259.add ((x6_2).toNat * 3)).block, (ad259.add ((x6_2).toNat * 3)).off + 2, none⟩ = some (.int .i64 ((rd_T62 l0_0 x6_2).f2)) ∧ w'.cell? (ad261.add ((x6_2).toNat * 3)) = some (.slice A261_0 ((rd_T66 t254 x6_2).f0).length c261_0) ∧ w'.cell? ⟨(ad261.add ((x6_2).toNat * 3)).block, (ad261.add ((x6_2).toNat * 3)).off + 1, none⟩ = some (.bool ((rd_T66 t254 x6_2).f1)) ∧ w'.cell? ⟨(ad261.add ((x6_2).toNat * 3)).block, (ad261.add ((x6_2).toNat * 3)).off + 2, none⟩ = some (.int .i64 ((rd_T66 t254 x6_2).f2))) (ds := []) #[false, false, false, false, false, false, false, false, false, false, false, false] (by kernel_rfl) rfl rfl ⟨(blk_cell BK251.out 0).trans rfl, ((HB.out.cell (World.block_lt_of_cell? w _ hw259_0)).trans hw259_0), ((HB.out.cell (World.block_lt_of_cell? w _ hw259_1)).trans hw259_1), ((HB.out.cell (World.block_lt_of_cell? w _ hw259_2)).trans hw259_2), hx261_0, hx261_1, hx261_2⟩ (fun hHeld => ?_); refine with_tabW tabardlaw13_PatternShapes.tab9 tabardlaw13_PatternShapes.bits9 (fun HT_ HW_ => ?_)
          generalize wr.drew = w21 at HO_5 BK251 HB HL261_0 HR259_0 HR261_0 hx259_0 hx259_1 hx259_2 hx261_0 hx261_1 hx261_2 hHeld ⊢
          refine pure_ (i := 0) (N := some 25) (v := ?_) (a' := ?_) #[true, false, false, false, false, false, false, false, false, false, false, false] rfl rfl (any_of HT_.out (by kernel_rfl)) (fun _ _ _ h => h) (Or.inl ⟨by rfl, ?_⟩) ?_ ?_
          rotate_left
          ·intro w'
           go_simp
           with_reducible rfl
          rotate_left
          ·simp only [Act.put, List.setIfInBounds_toArray, List.set_cons_zero, List.set_cons_succ, i64_w, i32_w]
           rfl
          refine pure_ (i := 2) (N := some 27) (v := ?_) (a' := ?_) #[true, false, true, false, false, false, false, false, false, false, false, false] rfl rfl (any_of HT_.out (by kernel_rfl)) (fun _ _ _ h => h) (Or.inl ⟨by rfl, ?_⟩) ?_ ?_
          rotate_left
          ·intro w'
           go_simp
           with_reducible rfl
          rotate_left
          ·simp only [Act.put, List.setIfInBounds_toArray, List.set_cons_zero, List.set_cons_succ, i64_w, i32_w]
           rfl
          refine pure_ (i := 6) (N := some 31) (v := ?_) (a' := ?_) #[true, false, true, false, false, false, true, false, false, false, false, false] rfl rfl (any_of HT_.out (by kernel_rfl)) (fun _ _ _ h => h) (Or.inl ⟨by rfl, ?_⟩) ?_ ?_
          rotate_left
          ·intro w'
           go_simp
           with_reducible rfl
          rotate_left
          ·simp only [Act.put, List.setIfInBounds_toArray, List.set_cons_zero, List.set_cons_succ, i64_w, i32_w]
           rfl
          refine pure_ (i := 7) (N := some 32) (v := ?_) (a' := ?_) #[true, false, true, false, false, false, true, true, false, false, false, false] rfl rfl (any_of HT_.out (by kernel_rfl)) (fun _ _ _ h => h) (Or.inl ⟨by rfl, ?_⟩) ?_ ?_
          rotate_left
          ·intro w'
           go_simp
           with_reducible rfl
          rotate_left
          ·simp only [Act.put, List.setIfInBounds_toArray, List.set_cons_zero, List.set_cons_succ, i64_w, i32_w]
           rfl
          refine pure_ (i := 8) (N := some 33) (v := ?_) (a' := ?_) #[true, false, true, false, false, false, true, true, true, false, false, false] rfl rfl (any_of HT_.out (by kernel_rfl)) (fun _ _ _ h => h) (Or.inl ⟨by rfl, ?_⟩) ?_ ?_
          rotate_left
          ·intro w'
           go_simp
           with_reducible rfl
          rotate_left
          ·simp only [Act.put, List.setIfInBounds_toArray, List.set_cons_zero, List.set_cons_succ, i64_w, i32_w]
           rfl
          refine take_ (i := 1) (N := some 26) (v := ?_) (a' := ?_) #[true, true, true, false, false, false, true, true, true, false, false, false] rfl rfl (take_ofW HT_.out HW_.out (by kernel_rfl)) (fun _ _ _ h => h) (Or.inl ⟨by rfl, ?_⟩) hHeld ?_ ?_
          rotate_left
          ·rintro w' ⟨s0, s1, s2, s3, s4, s5, s6⟩
           go_simp
           with_reducible rfl
          rotate_left
          ·simp only [Act.put, List.setIfInBounds_toArray, List.set_cons_zero, List.set_cons_succ, i64_w, i32_w]
           rfl
          refine pure_ (i := 3) (N := some 28) (v := ?_) (a' := ?_) #[true, true, true, true, false, false, true, true, true, false, false, false] rfl rfl (any_of HT_.out (by kernel_rfl)) (fun _ _ _ h => h) (Or.inl ⟨by rfl, ?_⟩) ?_ ?_
          rotate_left
          ·intro w'
           go_simp
           with_reducible rfl
          rotate_left
          ·simp only [Act.put, List.setIfInBounds_toArray, List.set_cons_zero, List.set_cons_succ, i64_w, i32_w]
           rfl
          refine take_ (i := 4) (N := some 29) (v := ?_) (a' := ?_) #[true, true, true, true, true, false, true, true, true, false, false, false] rfl rfl (take_ofW HT_.out HW_.out (by kernel_rfl)) (fun _ _ _ h => h) (Or.inl ⟨by rfl, ?_⟩) hHeld ?_ ?_
          rotate_left
          ·rintro w' ⟨s0, s1, s2, s3, s4, s5, s6⟩
           go_simp
           with_reducible rfl
          rotate_left
          ·simp only [Act.put, List.setIfInBounds_toArray, List.set_cons_zero, List.set_cons_succ, i64_w, i32_w]
           rfl
          refine take_ (i := 9) (N := some 34) (v := ?_) (a' := ?_) #[true, true, true, true, true, false, true, true, true, true, false, false] rfl rfl (take_ofW HT_.out HW_.out (by kernel_rfl)) (fun _ _ _ h => h) (Or.inl ⟨by rfl, ?_⟩) hHeld ?_ ?_
          rotate_left
          ·rintro w' ⟨s0, s1, s2, s3, s4, s5, s6⟩
           go_simp
           with_reducible rfl
          rotate_left
          ·simp only [Act.put, List.setIfInBounds_toArray, List.set_cons_zero, List.set_cons_succ, i64_w, i32_w]
           rfl
          refine one_ (i := 5) (N := some 30) #[true, true, true, true, true, true, true, true, true, true, false, false] rfl rfl (one_of HT_.out (by kernel_rfl)) (by decide) (fun K hK => ?_)
          refine goes_ Tryd.func31 (by kernel_rfl) rfl #[.agg #[.slice A259_0 ((rd_T62 l0_0 x6_2).f0).length c259_0, .bool ((rd_T62 l0_0 x6_2).f1), .int .i64 ((rd_T62 l0_0 x6_2).f2)]] (by rfl) rfl rfl Z1 ?_
          with_reducible refine (pattern_Shape.calls _ _ ((rd_T62 l0_0 x6_2).f0) ((rd_T62 l0_0 x6_2).f1) ((rd_T62 l0_0 x6_2).f2) t260 _ ?side3 ?side1 ?side2 A17.out).mono ?_
          (case side1 => repeat (first | exact (Kd.C_below HR259_0.out HB.out) | (with_reducible refine Kd.C_alloc ?_ _) | (with_reducible refine Kd.C_drewN ?_ _) | (with_reducible refine Kd.C_drew ?_)))
          (case side2 => exact HC259_0.out)
          (case side3 => exact GL.below HGL.out Z20)
          rintro e w22 ⟨rfl, hb⟩
          have HS4_ := (hb.cell (World.block_lt_of_cell? _ _ (hHeld.2.2.2.2.1))).trans (hHeld.2.2.2.2.1)
          have HS5_ := (hb.cell (World.block_lt_of_cell? _ _ (hHeld.2.2.2.2.2.1))).trans (hHeld.2.2.2.2.2.1)
          have HS6_ := (hb.cell (World.block_lt_of_cell? _ _ (hHeld.2.2.2.2.2.2))).trans (hHeld.2.2.2.2.2.2)
          refine ⟨_, rfl, ?_⟩
          have n0_ := Aside0.mk (Kd.S_below Z61 hb)
          have n1_ := Aside0.mk (Kd.R_below (by (with_reducible repeat (first | apply Kd.R_alloc | apply Kd.R_drewN | apply Kd.R_drew)); exact HL261_0.out) hb)
          have n2_ := Aside0.mk (blk_below (g := gb251) (o := .cells #[.slice (some ad259) l0_0.length c0_0] 55 (0, 0)) Z42 hb)
          have n3_ := Aside0.mk (Kd.C_below Z54 hb)
          have n4_ := Aside0.mk (below_step Z20 hb)
          clear HO_5
          clear HL261_0
          clear BK251
          clear HR261_0
          clear HB
          have HO_5 := n0_
          have HL261_0 := n1_
          have BK251 := n2_
          have HR261_0 := n3_
          have HB := n4_
          clear n0_ n1_ n2_ n3_ n4_
          (try clear hb)
          (try clear hb2)
          (try clear hk)
          (try clear hi)
          refine hK.out _ _ ⟨(blk_cell BK251.out 0).trans rfl, ((HB.out.cell (World.block_lt_of_cell? w _ hw259_0)).trans hw259_0), ((HB.out.cell (World.block_lt_of_cell? w _ hw259_1)).trans hw259_1), ((HB.out.cell (World.block_lt_of_cell? w _ hw259_2)).trans hw259_2), HS4_, HS5_, HS6_⟩ (fun hHeld => ?_)
          clear hK K
          refine norm_ (a' := ?_) ?_ ?_
          rotate_left
          ·show Act.put _ (some 30) _ = _
           simp only [Act.put, List.setIfInBounds_toArray, List.set_cons_zero, List.set_cons_succ, i64_w, i32_w]
           rfl
          refine one_ (i := 10) (N := some 35) #[true, true, true, true, true, true, true, true, true, true, true, false] rfl rfl (one_of HT_.out (by kernel_rfl)) (by decide) (fun K hK => ?_)
          refine goes_ Tryd.func32 (by kernel_rfl) rfl #[.agg #[.slice A261_0 ((rd_T66 t254 x6_2).f0).length c261_0, .bool ((rd_T66 t254 x6_2).f1), .int .i64 ((rd_T66 t254 x6_2).f2)]] (by rfl) rfl rfl Z1 ?_
          with_reducible refine (tabardref13_Shape.calls k2 _ _ ((rd_T66 t254 x6_2).f0) ((rd_T66 t254 x6_2).f1) ((rd_T66 t254 x6_2).f2) t262 _ ?side1 ?side2 A18.out).mono ?_
          (case side1 => repeat (first | exact Z54 | (with_reducible refine Kd.C_alloc ?_ _) | (with_reducible refine Kd.C_drewN ?_ _) | (with_reducible refine Kd.C_drew ?_)))
          (case side2 => exact HC261_0.out)
          rintro e w23 ⟨rfl, hb⟩
          have HS4_ := (hb.cell (World.block_lt_of_cell? _ _ (hHeld.2.2.2.2.1))).trans (hHeld.2.2.2.2.1)
          have HS5_ := (hb.cell (World.block_lt_of_cell? _ _ (hHeld.2.2.2.2.2.1))).trans (hHeld.2.2.2.2.2.1)
          have HS6_ := (hb.cell (World.block_lt_of_cell? _ _ (hHeld.2.2.2.2.2.2))).trans (hHeld.2.2.2.2.2.2)
          refine ⟨_, rfl, ?_⟩
          have n0_ := Aside0.mk (Kd.S_below Z61 hb)
          have n1_ := Aside0.mk (Kd.R_below (by (with_reducible repeat (first | apply Kd.R_alloc | apply Kd.R_drewN | apply Kd.R_drew)); exact HL261_0.out) hb)
          have n2_ := Aside0.mk (blk_below (g := gb251) (o := .cells #[.slice (some ad259) l0_0.length c0_0] 55 (0, 0)) Z42 hb)
          have n3_ := Aside0.mk (Kd.C_below Z54 hb)
          have n4_ := Aside0.mk (below_step Z20 hb)
          clear HO_5
          clear HL261_0
          clear BK251
          clear HR261_0
          clear HB
          have HO_5 := n0_
          have HL261_0 := n1_
          have BK251 := n2_
          have HR261_0 := n3_
          have HB := n4_
          clear n0_ n1_ n2_ n3_ n4_
          (try clear hb)
          (try clear hb2)
          (try clear hk)
          (try clear hi)
          refine hK.out _ _ ⟨(blk_cell BK251.out 0).trans rfl, ((HB.out.cell (World.block_lt_of_cell? w _ hw259_0)).trans hw259_0), ((HB.out.cell (World.block_lt_of_cell? w _ hw259_1)).trans hw259_1), ((HB.out.cell (World.block_lt_of_cell? w _ hw259_2)).trans hw259_2), HS4_, HS5_, HS6_⟩ (fun hHeld => ?_)
          clear hK K
          refine norm_ (a' := ?_) ?_ ?_
          rotate_left
          ·show Act.put _ (some 35) _ = _
           simp only [Act.put, List.setIfInBounds_toArray, List.set_cons_zero, List.set_cons_succ, i64_w, i32_w]
           rfl
          refine pure_ (i := 11) (N := some 36) (v := ?_) (a' := ?_) #[true, true, true, true, true, true, true, true, true, true, true, true] rfl rfl (any_of HT_.out (by kernel_rfl)) (fun _ _ _ h => h) (Or.inl ⟨by rfl, ?_⟩) ?_ ?_
          rotate_left
          ·intro w'
           go_simp
           with_reducible rfl
          rotate_left
          ·simp only [Act.put, List.setIfInBounds_toArray, List.set_cons_zero, List.set_cons_succ, i64_w, i32_w]
           rfl
          refine done_ (done_of HT_.out (by kernel_rfl)) ?_
          try go_wp2
          go_roundg k2
          case measure => have := HJ3.out; have := HK2.out; omega
          case rel => exact ⟨(wrap64 (x6_2 + 1)), Z5, H', ⟨by have := HJ3.out; have := HK2.out; omega⟩, ⟨by (with_reducible repeat (first | apply Kd.S_alloc | apply Kd.S_drewN | apply Kd.S_drew)); exact HO_5.out⟩, ⟨by (with_reducible repeat (first | refine blk_drewN ?_ _ | refine blk_drew ?_ | refine blk_alloc ?_ _)); exact BK251.out⟩, ⟨by repeat (first | (with_reducible first | exact HB.out | apply below_alloc | apply pw_below_drewN | apply below_drew1 | refine below_set ?_ GE251.out) | exact HB.out)⟩⟩
         ·rw [if_neg c19] at H
          exact Z39
        ·rw [if_neg c16] at H
         exact Z39
       ·rw [if_neg c15] at H
        exact Z39
      ·rw [if_neg c14] at H
       have c14b0 : decide (x6_2 < (t254.length : Int)) = false := decide_eq_false c14
       clear c14
       replace H := Option.bind_eq_some_iff.mp H
       obtain ⟨t257, A240, H⟩ := H
       replace H : ((tabardref13_Right.f k2 t254).bind fun t258 => (some (t257 == t258))) = some r := H
       have A24 := Aside0.mk A240
       clear A240
       replace H := Option.bind_eq_some_iff.mp H
       obtain ⟨t258, A250, H⟩ := H
       replace H : (some (t257 == t258)) = some r := H
       have A25 := Aside0.mk A250
       clear A250
       obtain rfl := Option.some.inj H
       obtain ⟨Ao26, co26, eo26⟩ := Kd.S_slice HO_5.out
       subst eo26
       have hcz27_0 : wr.cell? ⟨gb251, 0, none⟩ = some (.slice A0_0 l0_0.length c0_0) := (blk_cell BK251.out 0).trans rfl
       have hfz27_0 := blk_frozen BK251.out 0
       go_wp2_with (first | ((with_reducible refine gate_callee (f := 33) rfl ?_); refine goesL_ (some 38) rfl rfl Tryd.func33 (by kernel_rfl) rfl #[.agg #[.slice A0_0 l0_0.length c0_0]] rfl Z1 ?_; (with_reducible refine (pattern_Right.calls k2 _ _ l0_0 t257 _ ?side3 ?side1 ?side2 A24.out).mono ?_); (case side1 => exact Z4); (case side2 => exact Z38); (case side3 => exact GL.below HGL.out Z20); rintro e w28 ⟨rfl, hb⟩; refine ⟨_, rfl, ?_⟩; have n0_ := Aside0.mk (Kd.S_below Z61 hb); have n1_ := Aside0.mk (blk_below (g := gb251) (o := .cells #[.slice A0_0 l0_0.length c0_0] 55 (0, 0)) Z42 hb); have n2_ := Aside0.mk (below_step Z20 hb); clear HO_5; clear BK251; clear HB; have HO_5 := n0_; have BK251 := n1_; have HB := n2_; clear n0_ n1_ n2_; (try clear hb); (try clear hb2); (try clear hk); (try clear hi)) | ((with_reducible refine gate_callee (f := 34) rfl ?_); refine goesL_ (some 40) rfl rfl Tryd.func34 (by kernel_rfl) rfl #[.slice Ao26 t254.length co26] rfl Z1 ?_; (with_reducible refine (tabardref13_Right.calls k2 _ _ t254 t258 _ ?side1 ?side2 A25.out).mono ?_); (case side1 => repeat (first | exact (Kd.S_reads' HO_5.out).2.2 | (with_reducible refine Kd.C_alloc ?_ _) | (with_reducible refine Kd.C_drewN ?_ _) | (with_reducible refine Kd.C_drew ?_))); (case side2 => exact (Kd.S_reads' HO_5.out).2.1); rintro e w29 ⟨rfl, hb⟩; refine ⟨_, rfl, ?_⟩; have n0_ := Aside0.mk (Kd.S_below Z61 hb); have n1_ := Aside0.mk (blk_below (g := gb251) (o := .cells #[.slice A0_0 l0_0.length c0_0] 55 (0, 0)) Z42 hb); have n2_ := Aside0.mk (below_step Z20 hb); clear HO_5; clear BK251; clear HB; have HO_5 := n0_; have BK251 := n1_; have HB := n2_; clear n0_ n1_ n2_; (try clear hb); (try clear hb2); (try clear hk); (try clear hi)))
       go_ret
       exact Z65
end Go.Proofs.YtmbhjogohfcjgaaDoor.P
