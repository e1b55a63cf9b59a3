-- Laid by wip/tools/xprint.py, a program of this session's, over the kit's print. Lean checks it.
import Derived.Test.YtmbhjogohfcjgaaDoorP0
import Derived.Test.YtmbhjogohfcjgaaDoorP2
import Derived.Test.YtmbhjogohfcjgaaDoorP3
import Derived.Test.YtmbhjogohfcjgaaDoorP4
namespace Go.Proofs.YtmbhjogohfcjgaaDoor.P
open Go.RowKit Go.Proofs.YtmbhjogohfcjgaaDoorW.PrintWords Go.Proofs.YtmbhjogohfcjgaaDoorW.PrintLast Go.Proofs.YtmbhjogohfcjgaaDoorW.PrintMore
attribute [local go_sem] max2_int min2_int max_two min_two max_three min_three max_four min_four   -- for this text's walks alone
set_option linter.unusedVariables false
set_option linter.unusedSimpArgs false
mutual
def tabardref13_Shape.l0 : Nat → List (S98) → Int → List (S98) → Bool → Int → Option (Int)
 | 0, _, _, _, _, _ => none
 | k + 1, x3, x4, x166000, x166001, x166002 => if x4 < (x3.length : Int) then (if 0 ≤ x4 then ((tabardref13_item.f k ((rd_T98 x3 x4).f0) ((rd_T98 x3 x4).f1)).bind fun t167 => (if t167 = true then (tabardref13_Shape.l0 k x3 (wrap64 (x4 + 1)) x166000 x166001 x166002) else (some 0))) else (none)) else ((tabardref13_count.f k x3 2).bind fun t168 => (if x166001 = true then (tabardref13_Shape.j1 k x3 t168 false x166000 x166001 x166002) else (tabardref13_Shape.j1 k x3 t168 (x166002 == 0) x166000 x166001 x166002)))
def tabardref13_Shape.j1 : Nat → List (S98) → Int → Bool → List (S98) → Bool → Int → Option (Int)
 | 0, _, _, _, _, _, _ => none
 | k + 1, x3, x6, x7, x166000, x166001, x166002 => (tabardref13_count.f k x3 3).bind fun t169 => ((tabardref13_count.f k x3 4).bind fun t170 => ((tabardref13_count.f k x3 5).bind fun t171 => ((tabardref13_count.f k x3 6).bind fun t172 => ((tabardref13_count.f k x3 7).bind fun t173 => (if t173 > 0 then ((tabardref13_count.f k x3 7).bind fun t174 => (if t174 = 1 then ((tabardref13_count.f k x3 8).bind fun t175 => (if (wrap64 ((wrap64 (x6 + (wrap64 ((wrap64 ((wrap64 (t169 + t170)) + t171)) + t172)))) + t175)) = 0 then (if x7 = true then (some 5) else (some 0)) else (some 0))) else (some 0))) else ((tabardref13_count.f k x3 8).bind fun t176 => (if t176 > 0 then ((tabardref13_count.f k x3 9).bind fun t177 => (if (wrap64 ((wrap64 (x6 + (wrap64 ((wrap64 ((wrap64 (t169 + t170)) + t171)) + t172)))) + t177)) = 0 then (if x7 = true then (some 6) else (some 0)) else (some 0))) else (if (wrap64 (x6 + (wrap64 ((wrap64 ((wrap64 (t169 + t170)) + t171)) + t172)))) = 0 then (if x7 = true then (some 1) else (some 0)) else ((tabardref13_count.f k x3 6).bind fun t178 => (if t178 > 0 then (if x7 = true then ((tabardref13_fraction.f k x3).bind fun t179 => (some t179)) else (some 0)) else ((tabardref13_number.f k x166000 x166001 x166002).bind fun t180 => (some t180))))))))))))
end
def tabardref13_Shape.f (k : Nat) (l0_0 : List (S98)) (a0_1 : Bool) (a0_2 : Int) : Option (Int) := tabardref13_Shape.l0 k l0_0 0 l0_0 a0_1 a0_2
theorem tabardref13_Shape.mono_l : ∀ k, (∀ y0 y1 y2 y3 y4, LeO (tabardref13_Shape.l0 k y0 y1 y2 y3 y4) (tabardref13_Shape.l0 (k + 1) y0 y1 y2 y3 y4)) ∧ (∀ y0 y1 y2 y3 y4 y5, LeO (tabardref13_Shape.j1 k y0 y1 y2 y3 y4 y5) (tabardref13_Shape.j1 (k + 1) y0 y1 y2 y3 y4 y5))
 | 0 => ⟨fun _ _ _ _ _ r h => by simp [tabardref13_Shape.l0] at h, fun _ _ _ _ _ _ r h => by simp [tabardref13_Shape.j1] at h⟩
 | k + 1 => by
  obtain ⟨ih0, ih1⟩ := tabardref13_Shape.mono_l k
  refine ⟨?_, ?_⟩
  ·intro y0 y1 y2 y3 y4
   unfold tabardref13_Shape.l0
   repeat' first
   | (with_reducible exact ih0 _ _ _ _ _)
   | (with_reducible exact ih1 _ _ _ _ _ _)
   | (with_reducible exact tabardref13_count.mono _ _ _)
   | (with_reducible exact tabardref13_fraction.mono _ _)
   | (with_reducible exact tabardref13_item.mono _ _ _)
   | (with_reducible exact tabardref13_number.mono _ _ _ _)
   | (with_reducible exact LeO.refl _)
   | (with_reducible exact LeO.none _)
   | (with_reducible refine LeO.ite ?_ ?_)
   | (with_reducible refine LeO.bind ?_ (fun _ => ?_))
   | exact ih0 _ _ _ _ _
   | exact ih1 _ _ _ _ _ _
   | exact tabardref13_count.mono _ _ _
   | exact tabardref13_fraction.mono _ _
   | exact tabardref13_item.mono _ _ _
   | exact tabardref13_number.mono _ _ _ _
   | exact LeO.none _
   | refine LeO.ite ?_ ?_
   | refine LeO.bind ?_ (fun _ => ?_)
  ·intro y0 y1 y2 y3 y4 y5
   unfold tabardref13_Shape.j1
   repeat' first
   | (with_reducible exact ih0 _ _ _ _ _)
   | (with_reducible exact ih1 _ _ _ _ _ _)
   | (with_reducible exact tabardref13_count.mono _ _ _)
   | (with_reducible exact tabardref13_fraction.mono _ _)
   | (with_reducible exact tabardref13_item.mono _ _ _)
   | (with_reducible exact tabardref13_number.mono _ _ _ _)
   | (with_reducible exact LeO.refl _)
   | (with_reducible exact LeO.none _)
   | (with_reducible refine LeO.ite ?_ ?_)
   | (with_reducible refine LeO.bind ?_ (fun _ => ?_))
   | exact ih0 _ _ _ _ _
   | exact ih1 _ _ _ _ _ _
   | exact tabardref13_count.mono _ _ _
   | exact tabardref13_fraction.mono _ _
   | exact tabardref13_item.mono _ _ _
   | exact tabardref13_number.mono _ _ _ _
   | exact LeO.none _
   | refine LeO.ite ?_ ?_
   | refine LeO.bind ?_ (fun _ => ?_)
theorem tabardref13_Shape.mono : ∀ a0 a1 a2 k, LeO (tabardref13_Shape.f k a0 a1 a2) (tabardref13_Shape.f (k + 1) a0 a1 a2) := by
 intro a0 a1 a2 k
 obtain ⟨ih0, ih1⟩ := tabardref13_Shape.mono_l k
 unfold tabardref13_Shape.f
 repeat' first
   | (with_reducible exact ih0 _ _ _ _ _)
   | (with_reducible exact ih1 _ _ _ _ _ _)
   | (with_reducible exact tabardref13_count.mono _ _ _)
   | (with_reducible exact tabardref13_fraction.mono _ _)
   | (with_reducible exact tabardref13_item.mono _ _ _)
   | (with_reducible exact tabardref13_number.mono _ _ _ _)
   | (with_reducible exact LeO.refl _)
   | (with_reducible exact LeO.none _)
   | (with_reducible refine LeO.ite ?_ ?_)
   | (with_reducible refine LeO.bind ?_ (fun _ => ?_))
   | exact ih0 _ _ _ _ _
   | exact ih1 _ _ _ _ _ _
   | exact tabardref13_count.mono _ _ _
   | exact tabardref13_fraction.mono _ _
   | exact tabardref13_item.mono _ _ _
   | exact tabardref13_number.mono _ _ _ _
   | exact LeO.none _
   | refine LeO.ite ?_ ?_
   | refine LeO.bind ?_ (fun _ => ?_)
set_option maxHeartbeats 8000000 in
set_option maxRecDepth 100000 in
theorem tabardref13_Shape.calls (k : Nat) (A0_0 : Option Addr) (c0_0 : Nat) (l0_0 : List (S98)) (a0_1 : Bool) (a0_2 : Int) (r : Int) (w : World) (hr0_0 : Kd.C k98 w A0_0 l0_0.length l0_0) (hc0_0 : l0_0.length ≤ c0_0) (h : tabardref13_Shape.f k l0_0 a0_1 a0_2 = some r) :
  Calls Tryd.prog 32 #[.agg #[.slice A0_0 l0_0.length c0_0, .bool a0_1, .int .i64 a0_2]] w fun e w' => e = .returned (.int .i64 r) ∧ Below w.heap.size w w' := by
 have hu66 := Tryd.underlying66
 have hu98 := Tryd.underlying98
 have HR0_0 := Aside0.mk hr0_0
 have HC0_0 := Aside0.mk hc0_0
 clear hr0_0 hc0_0
 have HB := Aside0.mk (Below.refl w.heap.size w)
 have H : (tabardref13_Shape.l0 k l0_0 0 l0_0 a0_1 a0_2) = some r := h
 clear h
 have H' := Aside0.mk H
 clear H
 go_enter Tryd.func32, Tryd.ntmps32
 go_wp2_with (first | ((with_reducible refine gate_dst (N := 1) rfl ?_); refine box_event ?hg (N := 1) ?hd (cs := #[.slice A0_0 l0_0.length c0_0, .bool a0_1, .int .i64 a0_2]) (t := 66) ?hr ?_; (case hd => rfl); (case hg => rfl); (case hr => exact Z18); intro gb165 hg w2 hbox hb; have n0_ := Aside0.mk (below_step Z2 hb); have n1_ := Aside0.mk (hbox); have n2_ := Aside0.mk ((by rw [hg]; exact (below_size Z2) : w.heap.size ≤ gb165)); have n3_ := Aside0.mk ((by rw [hg]; exact (below_size Z2) : w.heap.size ≤ gb165)); clear HB; have HB := n0_; have BK165 := n1_; have GW165 := n2_; have GE165 := n3_; clear n0_ n1_ n2_ n3_; clear hb hbox hg; have hcz3_0 : w2.cell? ⟨gb165, 0, none⟩ = some (.slice A0_0 l0_0.length c0_0) := (blk_cell BK165.out 0).trans rfl; have hcz3_1 : w2.cell? ⟨gb165, 1, none⟩ = some (.bool a0_1) := (blk_cell BK165.out 1).trans rfl; have hcz3_2 : w2.cell? ⟨gb165, 2, none⟩ = some (.int .i64 a0_2) := (blk_cell BK165.out 2).trans rfl; have hfz3_0 := blk_frozen BK165.out 0; have hfz3_1 := blk_frozen BK165.out 1; have hfz3_2 := blk_frozen BK165.out 2))
 go_loopg [4] k (fun kq v4 w' => ∃ (x4_1 : Int), v4 = .int .i64 x4_1 ∧ Aside0 (tabardref13_Shape.l0 kq l0_0 x4_1 l0_0 a0_1 a0_2 = some r) ∧ Aside0 (kq ≤ k) ∧ Aside0 (w'.heap[gb165]? = some (.cells #[(.slice A0_0 l0_0.length c0_0), .bool a0_1, .int .i64 a0_2] 66 (0, 0))) ∧ Aside0 (Below w.heap.size w w'))
 case atStart => exact ⟨(0), Z5, H', ⟨Nat.le_refl _⟩, ⟨by (with_reducible repeat (first | refine blk_drewN ?_ _ | refine blk_drew ?_ | refine blk_alloc ?_ _)); exact BK165.out⟩, ⟨by repeat (first | (with_reducible first | exact HB.out | apply below_alloc | apply pw_below_drewN | apply below_drew1 | refine below_set ?_ GE165.out) | exact HB.out)⟩⟩
 case round =>
  clear H'
  try clear p2
  try clear c3
  try clear hcz3_0
  try clear hcz3_1
  try clear hcz3_2
  try clear hfz3_0
  try clear hfz3_1
  try clear hfz3_2
  obtain ⟨x4_1, rfl, HA, HK1, BK165, HB⟩ := hrel
  cases gk with
  | zero => exact absurd HA.out (by simp [tabardref13_Shape.l0])
  | succ k1 =>
   have H := HA.out
   clear HA
   simp only [tabardref13_Shape.l0] at H
   by_cases c4 : x4_1 < (l0_0.length : Int)
   ·rw [if_pos c4] at H
    have c4b0 : decide (x4_1 < (l0_0.length : Int)) = true := decide_eq_true c4
    clear c4
    by_cases c5 : 0 ≤ x4_1
    ·rw [if_pos c5] at H
     have c5b0 : decide (0 ≤ x4_1) = true := decide_eq_true c5
     clear c5
     replace H := Option.bind_eq_some_iff.mp H
     obtain ⟨t167, A60, H⟩ := H
     replace H : (if t167 = true then (tabardref13_Shape.l0 k1 l0_0 (wrap64 (x4_1 + 1)) l0_0 a0_1 a0_2) else (some 0)) = some r := H
     have A6 := Aside0.mk A60
     clear A60
     by_cases c7 : t167 = true
     ·subst c7
      have H1 : (tabardref13_Shape.l0 k1 l0_0 (wrap64 (x4_1 + 1)) l0_0 a0_1 a0_2) = some r := by rw [if_pos rfl] at H; exact H
      clear H
      have H := H1
      clear H1
      have H' := Aside0.mk H
      clear H
      have p166 : 0 ≤ (x4_1 : Int) := of_decide_eq_true Z6
      have q166 : x4_1 < (l0_0.length : Int) := of_decide_eq_true Z6
      obtain ⟨ad166, e166, hx166_0, hx166_1⟩ := at_T98 HR0_0.out x4_1 p166 q166
      cases e166
      replace hx166_0 := (HB.out.cell (World.block_lt_of_cell? w _ hx166_0)).trans hx166_0
      replace hx166_1 := (HB.out.cell (World.block_lt_of_cell? w _ hx166_1)).trans hx166_1
      replace p166 := eq_true p166
      replace q166 := eq_true q166
      go_wp2_with (first | ((with_reducible refine gate_callee (f := 56) rfl ?_); refine goesL_ (some 21) rfl rfl Tryd.func56 (by kernel_rfl) rfl #[.agg #[.int .i64 ((rd_T98 l0_0 x4_1).f0), .string ((rd_T98 l0_0 x4_1).f1)]] rfl Z3 ?_; (with_reducible refine (tabardref13_item.calls k1 ((rd_T98 l0_0 x4_1).f0) ((rd_T98 l0_0 x4_1).f1) true _ A6.out).mono ?_); rintro e w8 ⟨rfl, hb⟩; refine ⟨_, rfl, ?_⟩; have n0_ := Aside0.mk (blk_below (g := gb165) (o := .cells #[.slice (some ad166) l0_0.length c0_0, .bool a0_1, .int .i64 a0_2] 66 (0, 0)) Z61 hb); have n1_ := Aside0.mk (below_step Z52 hb); clear BK165; clear HB; have BK165 := n0_; have HB := n1_; clear n0_ n1_; (try clear hb); (try clear hb2); (try clear hk); (try clear hi)))
      go_roundg k1
      case measure => exact Z59
      case rel => exact ⟨(wrap64 (x4_1 + 1)), Z5, H', ⟨by have := HK1.out; omega⟩, ⟨by (with_reducible repeat (first | refine blk_drewN ?_ _ | refine blk_drew ?_ | refine blk_alloc ?_ _)); exact BK165.out⟩, ⟨by repeat (first | (with_reducible first | exact HB.out | apply below_alloc | apply pw_below_drewN | apply below_drew1 | refine below_set ?_ GE165.out) | exact HB.out)⟩⟩
     ·replace c7 := Bool.eq_false_iff.mpr c7
      subst c7
      have H1 : (some 0) = some r := by rw [if_neg (show ¬ (false = true) by decide)] at H; exact H
      clear H
      have H := H1
      clear H1
      obtain rfl := Option.some.inj H
      have p166 : 0 ≤ (x4_1 : Int) := of_decide_eq_true Z6
      have q166 : x4_1 < (l0_0.length : Int) := of_decide_eq_true Z6
      obtain ⟨ad166, e166, hx166_0, hx166_1⟩ := at_T98 HR0_0.out x4_1 p166 q166
      cases e166
      replace hx166_0 := (HB.out.cell (World.block_lt_of_cell? w _ hx166_0)).trans hx166_0
      replace hx166_1 := (HB.out.cell (World.block_lt_of_cell? w _ hx166_1)).trans hx166_1
      replace p166 := eq_true p166
      replace q166 := eq_true q166
      go_wp2_with (first | ((with_reducible refine gate_callee (f := 56) rfl ?_); refine goesL_ (some 21) rfl rfl Tryd.func56 (by kernel_rfl) rfl #[.agg #[.int .i64 ((rd_T98 l0_0 x4_1).f0), .string ((rd_T98 l0_0 x4_1).f1)]] rfl Z3 ?_; (with_reducible refine (tabardref13_item.calls k1 ((rd_T98 l0_0 x4_1).f0) ((rd_T98 l0_0 x4_1).f1) false _ A6.out).mono ?_); rintro e w9 ⟨rfl, hb⟩; refine ⟨_, rfl, ?_⟩; have n0_ := Aside0.mk (blk_below (g := gb165) (o := .cells #[.slice (some ad166) l0_0.length c0_0, .bool a0_1, .int .i64 a0_2] 66 (0, 0)) Z61 hb); have n1_ := Aside0.mk (below_step Z52 hb); clear BK165; clear HB; have BK165 := n0_; have HB := n1_; clear n0_ n1_; (try clear hb); (try clear hb2); (try clear hk); (try clear hi)))
      go_ret
      exact Z11
    ·rw [if_neg c5] at H
     exact Z33
   ·rw [if_neg c4] at H
    have c4b0 : decide (x4_1 < (l0_0.length : Int)) = false := decide_eq_false c4
    clear c4
    replace H := Option.bind_eq_some_iff.mp H
    obtain ⟨t168, A100, H⟩ := H
    replace H : (if a0_1 = true then (tabardref13_Shape.j1 k1 l0_0 t168 false l0_0 a0_1 a0_2) else (tabardref13_Shape.j1 k1 l0_0 t168 (a0_2 == 0) l0_0 a0_1 a0_2)) = some r := H
    have A10 := Aside0.mk A100
    clear A100
    have HC11 := Aside0.mk H
    clear H
    go_upto_region 9 with (first | ((with_reducible refine gate_callee (f := 57) rfl ?_); refine goesL_ (some 25) rfl rfl Tryd.func57 (by kernel_rfl) rfl #[.slice A0_0 l0_0.length c0_0, .int .i64 2] rfl Z3 ?_; (with_reducible refine (tabardref13_count.calls k1 _ _ l0_0 2 t168 _ ?side1 ?side2 A10.out).mono ?_); (case side1 => exact Z7); (case side2 => exact Z39); rintro e w' ⟨rfl, ⟨nd, rfl⟩⟩; refine ⟨_, rfl, ?_⟩))
    (try simp only [Act.put, List.setIfInBounds_toArray, List.set_cons_zero, List.set_cons_succ])
    go_cut [7] (fun v7 wc => ∃ (kq : Nat) (x7_10 : Bool), v7 = .bool x7_10 ∧ Aside0 (tabardref13_Shape.j1 kq l0_0 t168 x7_10 l0_0 a0_1 a0_2 = some r) ∧ Aside0 (kq ≤ k1) ∧ Aside0 (wc.heap[gb165]? = some (.cells #[(.slice A0_0 l0_0.length c0_0), .bool a0_1, .int .i64 a0_2] 66 (0, 0))) ∧ Aside0 (Below w.heap.size w wc))
    case first =>
     have H := HC11.out
     clear HC11
     by_cases c12 : a0_1 = true
     ·subst c12
      have H1 : (tabardref13_Shape.j1 k1 l0_0 t168 false l0_0 true a0_2) = some r := by rw [if_pos rfl] at H; exact H
      clear H
      have H := H1
      clear H1
      have H' := Aside0.mk H
      clear H
      have hcz13_0 : wr.cell? ⟨gb165, 0, none⟩ = some (.slice A0_0 l0_0.length c0_0) := (blk_cell BK165.out 0).trans rfl
      have hcz13_1 : wr.cell? ⟨gb165, 1, none⟩ = some (.bool true) := (blk_cell BK165.out 1).trans rfl
      have hcz13_2 : wr.cell? ⟨gb165, 2, none⟩ = some (.int .i64 a0_2) := (blk_cell BK165.out 2).trans rfl
      have hfz13_0 := blk_frozen BK165.out 0
      have hfz13_1 := blk_frozen BK165.out 1
      have hfz13_2 := blk_frozen BK165.out 2
      go_wp2
      go_meet
      case rel => exact ⟨_, (false), Z5, H', ⟨by have := HK1.out; first | omega | exact Nat.le_refl _⟩, ⟨by (with_reducible repeat (first | refine blk_drewN ?_ _ | refine blk_drew ?_ | refine blk_alloc ?_ _)); exact BK165.out⟩, ⟨by repeat (first | (with_reducible first | exact HB.out | apply below_alloc | apply pw_below_drewN | apply below_drew1 | refine below_set ?_ GE165.out) | exact HB.out)⟩⟩
     ·replace c12 := Bool.eq_false_iff.mpr c12
      subst c12
      have H1 : (tabardref13_Shape.j1 k1 l0_0 t168 (a0_2 == 0) l0_0 false a0_2) = some r := by rw [if_neg (show ¬ (false = true) by decide)] at H; exact H
      clear H
      have H := H1
      clear H1
      have H' := Aside0.mk H
      clear H
      have hcz14_0 : wr.cell? ⟨gb165, 0, none⟩ = some (.slice A0_0 l0_0.length c0_0) := (blk_cell BK165.out 0).trans rfl
      have hcz14_1 : wr.cell? ⟨gb165, 1, none⟩ = some (.bool false) := (blk_cell BK165.out 1).trans rfl
      have hcz14_2 : wr.cell? ⟨gb165, 2, none⟩ = some (.int .i64 a0_2) := (blk_cell BK165.out 2).trans rfl
      have hfz14_0 := blk_frozen BK165.out 0
      have hfz14_1 := blk_frozen BK165.out 1
      have hfz14_2 := blk_frozen BK165.out 2
      go_wp2
      go_meet
      case rel => exact ⟨_, ((a0_2 == 0)), Z5, H', ⟨by have := HK1.out; first | omega | exact Nat.le_refl _⟩, ⟨by (with_reducible repeat (first | refine blk_drewN ?_ _ | refine blk_drew ?_ | refine blk_alloc ?_ _)); exact BK165.out⟩, ⟨by repeat (first | (with_reducible first | exact HB.out | apply below_alloc | apply pw_below_drewN | apply below_drew1 | refine below_set ?_ GE165.out) | exact HB.out)⟩⟩
    case rest =>
     clear HC11
     try clear c1
     try clear p1
     try clear q1
     try clear hx1
     try clear p2
     try clear c3
     try clear c4
     try clear c4b0
     try clear c5
     try clear c5b0
     try clear p6
     try clear c7
     try clear c12
     try clear hcz13_0
     try clear hcz13_1
     try clear hcz13_2
     try clear hcz14_0
     try clear hcz14_1
     try clear hcz14_2
     try clear hcz3_0
     try clear hcz3_1
     try clear hcz3_2
     try clear hfz13_0
     try clear hfz13_1
     try clear hfz13_2
     try clear hfz14_0
     try clear hfz14_1
     try clear hfz14_2
     try clear hfz3_0
     try clear hfz3_1
     try clear hfz3_2
     try clear hx166_0
     try clear hx166_1
     try clear p166
     try clear p2
     try clear q166
     obtain ⟨kq, x7_10, rfl, HA, HJ10, BK165, HB⟩ := hcut
     cases kq with
     | zero => exact absurd HA.out (by simp [tabardref13_Shape.j1])
     | succ kj10 =>
      have H := HA.out
      clear HA
      simp only [tabardref13_Shape.j1] at H
      replace H := Option.bind_eq_some_iff.mp H
      obtain ⟨t169, A150, H⟩ := H
      replace H : ((tabardref13_count.f kj10 l0_0 4).bind fun t170 => ((tabardref13_count.f kj10 l0_0 5).bind fun t171 => ((tabardref13_count.f kj10 l0_0 6).bind fun t172 => ((tabardref13_count.f kj10 l0_0 7).bind fun t173 => (if t173 > 0 then ((tabardref13_count.f kj10 l0_0 7).bind fun t174 => (if t174 = 1 then ((tabardref13_count.f kj10 l0_0 8).bind fun t175 => (if (wrap64 ((wrap64 (t168 + (wrap64 ((wrap64 ((wrap64 (t169 + t170)) + t171)) + t172)))) + t175)) = 0 then (if x7_10 = true then (some 5) else (some 0)) else (some 0))) else (some 0))) else ((tabardref13_count.f kj10 l0_0 8).bind fun t176 => (if t176 > 0 then ((tabardref13_count.f kj10 l0_0 9).bind fun t177 => (if (wrap64 ((wrap64 (t168 + (wrap64 ((wrap64 ((wrap64 (t169 + t170)) + t171)) + t172)))) + t177)) = 0 then (if x7_10 = true then (some 6) else (some 0)) else (some 0))) else (if (wrap64 (t168 + (wrap64 ((wrap64 ((wrap64 (t169 + t170)) + t171)) + t172)))) = 0 then (if x7_10 = true then (some 1) else (some 0)) else ((tabardref13_count.f kj10 l0_0 6).bind fun t178 => (if t178 > 0 then (if x7_10 = true then ((tabardref13_fraction.f kj10 l0_0).bind fun t179 => (some t179)) else (some 0)) else ((tabardref13_number.f kj10 l0_0 a0_1 a0_2).bind fun t180 => (some t180)))))))))))) = some r := H
      have A15 := Aside0.mk A150
      clear A150
      replace H := Option.bind_eq_some_iff.mp H
      obtain ⟨t170, A160, H⟩ := H
      replace H : ((tabardref13_count.f kj10 l0_0 5).bind fun t171 => ((tabardref13_count.f kj10 l0_0 6).bind fun t172 => ((tabardref13_count.f kj10 l0_0 7).bind fun t173 => (if t173 > 0 then ((tabardref13_count.f kj10 l0_0 7).bind fun t174 => (if t174 = 1 then ((tabardref13_count.f kj10 l0_0 8).bind fun t175 => (if (wrap64 ((wrap64 (t168 + (wrap64 ((wrap64 ((wrap64 (t169 + t170)) + t171)) + t172)))) + t175)) = 0 then (if x7_10 = true then (some 5) else (some 0)) else (some 0))) else (some 0))) else ((tabardref13_count.f kj10 l0_0 8).bind fun t176 => (if t176 > 0 then ((tabardref13_count.f kj10 l0_0 9).bind fun t177 => (if (wrap64 ((wrap64 (t168 + (wrap64 ((wrap64 ((wrap64 (t169 + t170)) + t171)) + t172)))) + t177)) = 0 then (if x7_10 = true then (some 6) else (some 0)) else (some 0))) else (if (wrap64 (t168 + (wrap64 ((wrap64 ((wrap64 (t169 + t170)) + t171)) + t172)))) = 0 then (if x7_10 = true then (some 1) else (some 0)) else ((tabardref13_count.f kj10 l0_0 6).bind fun t178 => (if t178 > 0 then (if x7_10 = true then ((tabardref13_fraction.f kj10 l0_0).bind fun t179 => (some t179)) else (some 0)) else ((tabardref13_number.f kj10 l0_0 a0_1 a0_2).bind fun t180 => (some t180))))))))))) = some r := H
      have A16 := Aside0.mk A160
      clear A160
      replace H := Option.bind_eq_some_iff.mp H
      obtain ⟨t171, A170, H⟩ := H
      replace H : ((tabardref13_count.f kj10 l0_0 6).bind fun t172 => ((tabardref13_count.f kj10 l0_0 7).bind fun t173 => (if t173 > 0 then ((tabardref13_count.f kj10 l0_0 7).bind fun t174 => (if t174 = 1 then ((tabardref13_count.f kj10 l0_0 8).bind fun t175 => (if (wrap64 ((wrap64 (t168 + (wrap64 ((wrap64 ((wrap64 (t169 + t170)) + t171)) + t172)))) + t175)) = 0 then (if x7_10 = true then (some 5) else (some 0)) else (some 0))) else (some 0))) else ((tabardref13_count.f kj10 l0_0 8).bind fun t176 => (if t176 > 0 then ((tabardref13_count.f kj10 l0_0 9).bind fun t177 => (if (wrap64 ((wrap64 (t168 + (wrap64 ((wrap64 ((wrap64 (t169 + t170)) + t171)) + t172)))) + t177)) = 0 then (if x7_10 = true then (some 6) else (some 0)) else (some 0))) else (if (wrap64 (t168 + (wrap64 ((wrap64 ((wrap64 (t169 + t170)) + t171)) + t172)))) = 0 then (if x7_10 = true then (some 1) else (some 0)) else ((tabardref13_count.f kj10 l0_0 6).bind fun t178 => (if t178 > 0 then (if x7_10 = true then ((tabardref13_fraction.f kj10 l0_0).bind fun t179 => (some t179)) else (some 0)) else ((tabardref13_number.f kj10 l0_0 a0_1 a0_2).bind fun t180 => (some t180)))))))))) = some r := H
      have A17 := Aside0.mk A170
      clear A170
      replace H := Option.bind_eq_some_iff.mp H
      obtain ⟨t172, A180, H⟩ := H
      replace H : ((tabardref13_count.f kj10 l0_0 7).bind fun t173 => (if t173 > 0 then ((tabardref13_count.f kj10 l0_0 7).bind fun t174 => (if t174 = 1 then ((tabardref13_count.f kj10 l0_0 8).bind fun t175 => (if (wrap64 ((wrap64 (t168 + (wrap64 ((wrap64 ((wrap64 (t169 + t170)) + t171)) + t172)))) + t175)) = 0 then (if x7_10 = true then (some 5) else (some 0)) else (some 0))) else (some 0))) else ((tabardref13_count.f kj10 l0_0 8).bind fun t176 => (if t176 > 0 then ((tabardref13_count.f kj10 l0_0 9).bind fun t177 => (if (wrap64 ((wrap64 (t168 + (wrap64 ((wrap64 ((wrap64 (t169 + t170)) + t171)) + t172)))) + t177)) = 0 then (if x7_10 = true then (some 6) else (some 0)) else (some 0))) else (if (wrap64 (t168 + (wrap64 ((wrap64 ((wrap64 (t169 + t170)) + t171)) + t172)))) = 0 then (if x7_10 = true then (some 1) else (some 0)) else ((tabardref13_count.f kj10 l0_0 6).bind fun t178 => (if t178 > 0 then (if x7_10 = true then ((tabardref13_fraction.f kj10 l0_0).bind fun t179 => (some t179)) else (some 0)) else ((tabardref13_number.f kj10 l0_0 a0_1 a0_2).bind fun t180 => (some t180))))))))) = some r := H
      have A18 := Aside0.mk A180
      clear A180
      replace H := Option.bind_eq_some_iff.mp H
      obtain ⟨t173, A190, H⟩ := H
      replace H : (if t173 > 0 then ((tabardref13_count.f kj10 l0_0 7).bind fun t174 => (if t174 = 1 then ((tabardref13_count.f kj10 l0_0 8).bind fun t175 => (if (wrap64 ((wrap64 (t168 + (wrap64 ((wrap64 ((wrap64 (t169 + t170)) + t171)) + t172)))) + t175)) = 0 then (if x7_10 = true then (some 5) else (some 0)) else (some 0))) else (some 0))) else ((tabardref13_count.f kj10 l0_0 8).bind fun t176 => (if t176 > 0 then ((tabardref13_count.f kj10 l0_0 9).bind fun t177 => (if (wrap64 ((wrap64 (t168 + (wrap64 ((wrap64 ((wrap64 (t169 + t170)) + t171)) + t172)))) + t177)) = 0 then (if x7_10 = true then (some 6) else (some 0)) else (some 0))) else (if (wrap64 (t168 + (wrap64 ((wrap64 ((wrap64 (t169 + t170)) + t171)) + t172)))) = 0 then (if x7_10 = true then (some 1) else (some 0)) else ((tabardref13_count.f kj10 l0_0 6).bind fun t178 => (if t178 > 0 then (if x7_10 = true then ((tabardref13_fraction.f kj10 l0_0).bind fun t179 => (some t179)) else (some 0)) else ((tabardref13_number.f kj10 l0_0 a0_1 a0_2).bind fun t180 => (some t180)))))))) = some r := H
      have A19 := Aside0.mk A190
      clear A190
      by_cases c20 : t173 > 0
      ·rw [if_pos c20] at H
       have c20b0 : decide (0 < t173) = true := decide_eq_true c20
       clear c20
       replace H := Option.bind_eq_some_iff.mp H
       obtain ⟨t174, A210, H⟩ := H
       replace H : (if t174 = 1 then ((tabardref13_count.f kj10 l0_0 8).bind fun t175 => (if (wrap64 ((wrap64 (t168 + (wrap64 ((wrap64 ((wrap64 (t169 + t170)) + t171)) + t172)))) + t175)) = 0 then (if x7_10 = true then (some 5) else (some 0)) else (some 0))) else (some 0)) = some r := H
       have A21 := Aside0.mk A210
       clear A210
       by_cases c22 : t174 = 1
       ·rw [if_pos c22] at H
        have c22b0 : (t174 == 1) = true := beq_iff_eq.mpr c22
        have c22b1 : (t174 != 1) = false := bne_eq_false_iff_eq.mpr c22
        clear c22
        replace H := Option.bind_eq_some_iff.mp H
        obtain ⟨t175, A230, H⟩ := H
        replace H : (if (wrap64 ((wrap64 (t168 + (wrap64 ((wrap64 ((wrap64 (t169 + t170)) + t171)) + t172)))) + t175)) = 0 then (if x7_10 = true then (some 5) else (some 0)) else (some 0)) = some r := H
        have A23 := Aside0.mk A230
        clear A230
        by_cases c24 : (wrap64 ((wrap64 (t168 + (wrap64 ((wrap64 ((wrap64 (t169 + t170)) + t171)) + t172)))) + t175)) = 0
        ·rw [if_pos c24] at H
         have c24b0 : ((wrap64 ((wrap64 (t168 + (wrap64 ((wrap64 ((wrap64 (t169 + t170)) + t171)) + t172)))) + t175)) == 0) = true := beq_iff_eq.mpr c24
         have c24b1 : ((wrap64 ((wrap64 (t168 + (wrap64 ((wrap64 ((wrap64 (t169 + t170)) + t171)) + t172)))) + t175)) != 0) = false := bne_eq_false_iff_eq.mpr c24
         clear c24
         by_cases c25 : x7_10 = true
         ·subst c25
          have H1 : (some 5) = some r := by rw [if_pos rfl] at H; exact H
          clear H
          have H := H1
          clear H1
          obtain rfl := Option.some.inj H
          go_wp2_with (first | ((with_reducible refine gate_callee (f := 57) rfl ?_); refine goesL_ (some 35) rfl rfl Tryd.func57 (by kernel_rfl) rfl #[.slice A0_0 l0_0.length c0_0, .int .i64 3] rfl Z3 ?_; (with_reducible refine (tabardref13_count.calls kj10 _ _ l0_0 3 t169 _ ?side1 ?side2 A15.out).mono ?_); (case side1 => exact Z7); (case side2 => exact Z39); rintro e w' ⟨rfl, ⟨nd, rfl⟩⟩; refine ⟨_, rfl, ?_⟩) | ((with_reducible refine gate_callee (f := 57) rfl ?_); refine goesL_ (some 37) rfl rfl Tryd.func57 (by kernel_rfl) rfl #[.slice A0_0 l0_0.length c0_0, .int .i64 4] rfl Z3 ?_; (with_reducible refine (tabardref13_count.calls kj10 _ _ l0_0 4 t170 _ ?side1 ?side2 A16.out).mono ?_); (case side1 => exact Z1); (case side2 => exact Z39); rintro e w' ⟨rfl, ⟨nd, rfl⟩⟩; refine ⟨_, rfl, ?_⟩) | ((with_reducible refine gate_callee (f := 57) rfl ?_); refine goesL_ (some 40) rfl rfl Tryd.func57 (by kernel_rfl) rfl #[.slice A0_0 l0_0.length c0_0, .int .i64 5] rfl Z3 ?_; (with_reducible refine (tabardref13_count.calls kj10 _ _ l0_0 5 t171 _ ?side1 ?side2 A17.out).mono ?_); (case side1 => exact Z1); (case side2 => exact Z39); rintro e w' ⟨rfl, ⟨nd, rfl⟩⟩; refine ⟨_, rfl, ?_⟩) | ((with_reducible refine gate_callee (f := 57) rfl ?_); refine goesL_ (some 43) rfl rfl Tryd.func57 (by kernel_rfl) rfl #[.slice A0_0 l0_0.length c0_0, .int .i64 6] rfl Z3 ?_; (with_reducible refine (tabardref13_count.calls kj10 _ _ l0_0 6 t172 _ ?side1 ?side2 A18.out).mono ?_); (case side1 => exact Z1); (case side2 => exact Z39); rintro e w' ⟨rfl, ⟨nd, rfl⟩⟩; refine ⟨_, rfl, ?_⟩) | ((with_reducible refine gate_callee (f := 57) rfl ?_); refine goesL_ (some 47) rfl rfl Tryd.func57 (by kernel_rfl) rfl #[.slice A0_0 l0_0.length c0_0, .int .i64 7] rfl Z3 ?_; (with_reducible refine (tabardref13_count.calls kj10 _ _ l0_0 7 t173 _ ?side1 ?side2 A19.out).mono ?_); (case side1 => exact Z1); (case side2 => exact Z39); rintro e w' ⟨rfl, ⟨nd, rfl⟩⟩; refine ⟨_, rfl, ?_⟩) | ((with_reducible refine gate_callee (f := 57) rfl ?_); refine goesL_ (some 50) rfl rfl Tryd.func57 (by kernel_rfl) rfl #[.slice A0_0 l0_0.length c0_0, .int .i64 7] rfl Z3 ?_; (with_reducible refine (tabardref13_count.calls kj10 _ _ l0_0 7 t174 _ ?side1 ?side2 A21.out).mono ?_); (case side1 => exact Z1); (case side2 => exact Z39); rintro e w' ⟨rfl, ⟨nd, rfl⟩⟩; refine ⟨_, rfl, ?_⟩) | (go_at_call 57; (with_reducible refine (tabardref13_count.calls kj10 _ _ l0_0 8 t175 _ ?side1 ?side2 A23.out).mono ?_); (case side1 => exact Z1); (case side2 => exact Z39); rintro e w' ⟨rfl, ⟨nd, rfl⟩⟩))
          go_ret
          exact Z11
         ·replace c25 := Bool.eq_false_iff.mpr c25
          subst c25
          have H1 : (some 0) = some r := by rw [if_neg (show ¬ (false = true) by decide)] at H; exact H
          clear H
          have H := H1
          clear H1
          obtain rfl := Option.some.inj H
          go_wp2_with (first | ((with_reducible refine gate_callee (f := 57) rfl ?_); refine goesL_ (some 35) rfl rfl Tryd.func57 (by kernel_rfl) rfl #[.slice A0_0 l0_0.length c0_0, .int .i64 3] rfl Z3 ?_; (with_reducible refine (tabardref13_count.calls kj10 _ _ l0_0 3 t169 _ ?side1 ?side2 A15.out).mono ?_); (case side1 => exact Z7); (case side2 => exact Z39); rintro e w' ⟨rfl, ⟨nd, rfl⟩⟩; refine ⟨_, rfl, ?_⟩) | ((with_reducible refine gate_callee (f := 57) rfl ?_); refine goesL_ (some 37) rfl rfl Tryd.func57 (by kernel_rfl) rfl #[.slice A0_0 l0_0.length c0_0, .int .i64 4] rfl Z3 ?_; (with_reducible refine (tabardref13_count.calls kj10 _ _ l0_0 4 t170 _ ?side1 ?side2 A16.out).mono ?_); (case side1 => exact Z1); (case side2 => exact Z39); rintro e w' ⟨rfl, ⟨nd, rfl⟩⟩; refine ⟨_, rfl, ?_⟩) | ((with_reducible refine gate_callee (f := 57) rfl ?_); refine goesL_ (some 40) rfl rfl Tryd.func57 (by kernel_rfl) rfl #[.slice A0_0 l0_0.length c0_0, .int .i64 5] rfl Z3 ?_; (with_reducible refine (tabardref13_count.calls kj10 _ _ l0_0 5 t171 _ ?side1 ?side2 A17.out).mono ?_); (case side1 => exact Z1); (case side2 => exact Z39); rintro e w' ⟨rfl, ⟨nd, rfl⟩⟩; refine ⟨_, rfl, ?_⟩) | ((with_reducible refine gate_callee (f := 57) rfl ?_); refine goesL_ (some 43) rfl rfl Tryd.func57 (by kernel_rfl) rfl #[.slice A0_0 l0_0.length c0_0, .int .i64 6] rfl Z3 ?_; (with_reducible refine (tabardref13_count.calls kj10 _ _ l0_0 6 t172 _ ?side1 ?side2 A18.out).mono ?_); (case side1 => exact Z1); (case side2 => exact Z39); rintro e w' ⟨rfl, ⟨nd, rfl⟩⟩; refine ⟨_, rfl, ?_⟩) | ((with_reducible refine gate_callee (f := 57) rfl ?_); refine goesL_ (some 47) rfl rfl Tryd.func57 (by kernel_rfl) rfl #[.slice A0_0 l0_0.length c0_0, .int .i64 7] rfl Z3 ?_; (with_reducible refine (tabardref13_count.calls kj10 _ _ l0_0 7 t173 _ ?side1 ?side2 A19.out).mono ?_); (case side1 => exact Z1); (case side2 => exact Z39); rintro e w' ⟨rfl, ⟨nd, rfl⟩⟩; refine ⟨_, rfl, ?_⟩) | ((with_reducible refine gate_callee (f := 57) rfl ?_); refine goesL_ (some 50) rfl rfl Tryd.func57 (by kernel_rfl) rfl #[.slice A0_0 l0_0.length c0_0, .int .i64 7] rfl Z3 ?_; (with_reducible refine (tabardref13_count.calls kj10 _ _ l0_0 7 t174 _ ?side1 ?side2 A21.out).mono ?_); (case side1 => exact Z1); (case side2 => exact Z39); rintro e w' ⟨rfl, ⟨nd, rfl⟩⟩; refine ⟨_, rfl, ?_⟩) | (go_at_call 57; (with_reducible refine (tabardref13_count.calls kj10 _ _ l0_0 8 t175 _ ?side1 ?side2 A23.out).mono ?_); (case side1 => exact Z1); (case side2 => exact Z39); rintro e w' ⟨rfl, ⟨nd, rfl⟩⟩))
          go_ret
          exact Z11
        ·rw [if_neg c24] at H
         have c24b0 : ((wrap64 ((wrap64 (t168 + (wrap64 ((wrap64 ((wrap64 (t169 + t170)) + t171)) + t172)))) + t175)) == 0) = false := beq_eq_false_iff_ne.mpr c24
         have c24b1 : ((wrap64 ((wrap64 (t168 + (wrap64 ((wrap64 ((wrap64 (t169 + t170)) + t171)) + t172)))) + t175)) != 0) = true := bne_iff_ne.mpr c24
         obtain rfl := Option.some.inj H
         go_wp2_with (first | ((with_reducible refine gate_callee (f := 57) rfl ?_); refine goesL_ (some 35) rfl rfl Tryd.func57 (by kernel_rfl) rfl #[.slice A0_0 l0_0.length c0_0, .int .i64 3] rfl Z3 ?_; (with_reducible refine (tabardref13_count.calls kj10 _ _ l0_0 3 t169 _ ?side1 ?side2 A15.out).mono ?_); (case side1 => exact Z7); (case side2 => exact Z39); rintro e w' ⟨rfl, ⟨nd, rfl⟩⟩; refine ⟨_, rfl, ?_⟩) | ((with_reducible refine gate_callee (f := 57) rfl ?_); refine goesL_ (some 37) rfl rfl Tryd.func57 (by kernel_rfl) rfl #[.slice A0_0 l0_0.length c0_0, .int .i64 4] rfl Z3 ?_; (with_reducible refine (tabardref13_count.calls kj10 _ _ l0_0 4 t170 _ ?side1 ?side2 A16.out).mono ?_); (case side1 => exact Z1); (case side2 => exact Z39); rintro e w' ⟨rfl, ⟨nd, rfl⟩⟩; refine ⟨_, rfl, ?_⟩) | ((with_reducible refine gate_callee (f := 57) rfl ?_); refine goesL_ (some 40) rfl rfl Tryd.func57 (by kernel_rfl) rfl #[.slice A0_0 l0_0.length c0_0, .int .i64 5] rfl Z3 ?_; (with_reducible refine (tabardref13_count.calls kj10 _ _ l0_0 5 t171 _ ?side1 ?side2 A17.out).mono ?_); (case side1 => exact Z1); (case side2 => exact Z39); rintro e w' ⟨rfl, ⟨nd, rfl⟩⟩; refine ⟨_, rfl, ?_⟩) | ((with_reducible refine gate_callee (f := 57) rfl ?_); refine goesL_ (some 43) rfl rfl Tryd.func57 (by kernel_rfl) rfl #[.slice A0_0 l0_0.length c0_0, .int .i64 6] rfl Z3 ?_; (with_reducible refine (tabardref13_count.calls kj10 _ _ l0_0 6 t172 _ ?side1 ?side2 A18.out).mono ?_); (case side1 => exact Z1); (case side2 => exact Z39); rintro e w' ⟨rfl, ⟨nd, rfl⟩⟩; refine ⟨_, rfl, ?_⟩) | ((with_reducible refine gate_callee (f := 57) rfl ?_); refine goesL_ (some 47) rfl rfl Tryd.func57 (by kernel_rfl) rfl #[.slice A0_0 l0_0.length c0_0, .int .i64 7] rfl Z3 ?_; (with_reducible refine (tabardref13_count.calls kj10 _ _ l0_0 7 t173 _ ?side1 ?side2 A19.out).mono ?_); (case side1 => exact Z1); (case side2 => exact Z39); rintro e w' ⟨rfl, ⟨nd, rfl⟩⟩; refine ⟨_, rfl, ?_⟩) | ((with_reducible refine gate_callee (f := 57) rfl ?_); refine goesL_ (some 50) rfl rfl Tryd.func57 (by kernel_rfl) rfl #[.slice A0_0 l0_0.length c0_0, .int .i64 7] rfl Z3 ?_; (with_reducible refine (tabardref13_count.calls kj10 _ _ l0_0 7 t174 _ ?side1 ?side2 A21.out).mono ?_); (case side1 => exact Z1); (case side2 => exact Z39); rintro e w' ⟨rfl, ⟨nd, rfl⟩⟩; refine ⟨_, rfl, ?_⟩) | (go_at_call 57; (with_reducible refine (tabardref13_count.calls kj10 _ _ l0_0 8 t175 _ ?side1 ?side2 A23.out).mono ?_); (case side1 => exact Z1); (case side2 => exact Z39); rintro e w' ⟨rfl, ⟨nd, rfl⟩⟩))
         go_ret
         exact Z11
       ·rw [if_neg c22] at H
        have c22b0 : (t174 == 1) = false := beq_eq_false_iff_ne.mpr c22
        have c22b1 : (t174 != 1) = true := bne_iff_ne.mpr c22
        obtain rfl := Option.some.inj H
        go_wp2_with (first | ((with_reducible refine gate_callee (f := 57) rfl ?_); refine goesL_ (some 35) rfl rfl Tryd.func57 (by kernel_rfl) rfl #[.slice A0_0 l0_0.length c0_0, .int .i64 3] rfl Z3 ?_; (with_reducible refine (tabardref13_count.calls kj10 _ _ l0_0 3 t169 _ ?side1 ?side2 A15.out).mono ?_); (case side1 => exact Z7); (case side2 => exact Z39); rintro e w' ⟨rfl, ⟨nd, rfl⟩⟩; refine ⟨_, rfl, ?_⟩) | ((with_reducible refine gate_callee (f := 57) rfl ?_); refine goesL_ (some 37) rfl rfl Tryd.func57 (by kernel_rfl) rfl #[.slice A0_0 l0_0.length c0_0, .int .i64 4] rfl Z3 ?_; (with_reducible refine (tabardref13_count.calls kj10 _ _ l0_0 4 t170 _ ?side1 ?side2 A16.out).mono ?_); (case side1 => exact Z1); (case side2 => exact Z39); rintro e w' ⟨rfl, ⟨nd, rfl⟩⟩; refine ⟨_, rfl, ?_⟩) | ((with_reducible refine gate_callee (f := 57) rfl ?_); refine goesL_ (some 40) rfl rfl Tryd.func57 (by kernel_rfl) rfl #[.slice A0_0 l0_0.length c0_0, .int .i64 5] rfl Z3 ?_; (with_reducible refine (tabardref13_count.calls kj10 _ _ l0_0 5 t171 _ ?side1 ?side2 A17.out).mono ?_); (case side1 => exact Z1); (case side2 => exact Z39); rintro e w' ⟨rfl, ⟨nd, rfl⟩⟩; refine ⟨_, rfl, ?_⟩) | ((with_reducible refine gate_callee (f := 57) rfl ?_); refine goesL_ (some 43) rfl rfl Tryd.func57 (by kernel_rfl) rfl #[.slice A0_0 l0_0.length c0_0, .int .i64 6] rfl Z3 ?_; (with_reducible refine (tabardref13_count.calls kj10 _ _ l0_0 6 t172 _ ?side1 ?side2 A18.out).mono ?_); (case side1 => exact Z1); (case side2 => exact Z39); rintro e w' ⟨rfl, ⟨nd, rfl⟩⟩; refine ⟨_, rfl, ?_⟩) | ((with_reducible refine gate_callee (f := 57) rfl ?_); refine goesL_ (some 47) rfl rfl Tryd.func57 (by kernel_rfl) rfl #[.slice A0_0 l0_0.length c0_0, .int .i64 7] rfl Z3 ?_; (with_reducible refine (tabardref13_count.calls kj10 _ _ l0_0 7 t173 _ ?side1 ?side2 A19.out).mono ?_); (case side1 => exact Z1); (case side2 => exact Z39); rintro e w' ⟨rfl, ⟨nd, rfl⟩⟩; refine ⟨_, rfl, ?_⟩) | ((with_reducible refine gate_callee (f := 57) rfl ?_); refine goesL_ (some 50) rfl rfl Tryd.func57 (by kernel_rfl) rfl #[.slice A0_0 l0_0.length c0_0, .int .i64 7] rfl Z3 ?_; (with_reducible refine (tabardref13_count.calls kj10 _ _ l0_0 7 t174 _ ?side1 ?side2 A21.out).mono ?_); (case side1 => exact Z1); (case side2 => exact Z39); rintro e w' ⟨rfl, ⟨nd, rfl⟩⟩; refine ⟨_, rfl, ?_⟩))
        go_ret
        exact Z11
      ·rw [if_neg c20] at H
       have c20b0 : decide (0 < t173) = false := decide_eq_false c20
       clear c20
       replace H := Option.bind_eq_some_iff.mp H
       obtain ⟨t176, A260, H⟩ := H
       replace H : (if t176 > 0 then ((tabardref13_count.f kj10 l0_0 9).bind fun t177 => (if (wrap64 ((wrap64 (t168 + (wrap64 ((wrap64 ((wrap64 (t169 + t170)) + t171)) + t172)))) + t177)) = 0 then (if x7_10 = true then (some 6) else (some 0)) else (some 0))) else (if (wrap64 (t168 + (wrap64 ((wrap64 ((wrap64 (t169 + t170)) + t171)) + t172)))) = 0 then (if x7_10 = true then (some 1) else (some 0)) else ((tabardref13_count.f kj10 l0_0 6).bind fun t178 => (if t178 > 0 then (if x7_10 = true then ((tabardref13_fraction.f kj10 l0_0).bind fun t179 => (some t179)) else (some 0)) else ((tabardref13_number.f kj10 l0_0 a0_1 a0_2).bind fun t180 => (some t180)))))) = some r := H
       have A26 := Aside0.mk A260
       clear A260
       by_cases c27 : t176 > 0
       ·rw [if_pos c27] at H
        have c27b0 : decide (0 < t176) = true := decide_eq_true c27
        clear c27
        replace H := Option.bind_eq_some_iff.mp H
        obtain ⟨t177, A280, H⟩ := H
        replace H : (if (wrap64 ((wrap64 (t168 + (wrap64 ((wrap64 ((wrap64 (t169 + t170)) + t171)) + t172)))) + t177)) = 0 then (if x7_10 = true then (some 6) else (some 0)) else (some 0)) = some r := H
        have A28 := Aside0.mk A280
        clear A280
        by_cases c29 : (wrap64 ((wrap64 (t168 + (wrap64 ((wrap64 ((wrap64 (t169 + t170)) + t171)) + t172)))) + t177)) = 0
        ·rw [if_pos c29] at H
         have c29b0 : ((wrap64 ((wrap64 (t168 + (wrap64 ((wrap64 ((wrap64 (t169 + t170)) + t171)) + t172)))) + t177)) == 0) = true := beq_iff_eq.mpr c29
         have c29b1 : ((wrap64 ((wrap64 (t168 + (wrap64 ((wrap64 ((wrap64 (t169 + t170)) + t171)) + t172)))) + t177)) != 0) = false := bne_eq_false_iff_eq.mpr c29
         clear c29
         by_cases c30 : x7_10 = true
         ·subst c30
          have H1 : (some 6) = some r := by rw [if_pos rfl] at H; exact H
          clear H
          have H := H1
          clear H1
          obtain rfl := Option.some.inj H
          go_wp2_with (first | ((with_reducible refine gate_callee (f := 57) rfl ?_); refine goesL_ (some 35) rfl rfl Tryd.func57 (by kernel_rfl) rfl #[.slice A0_0 l0_0.length c0_0, .int .i64 3] rfl Z3 ?_; (with_reducible refine (tabardref13_count.calls kj10 _ _ l0_0 3 t169 _ ?side1 ?side2 A15.out).mono ?_); (case side1 => exact Z7); (case side2 => exact Z39); rintro e w' ⟨rfl, ⟨nd, rfl⟩⟩; refine ⟨_, rfl, ?_⟩) | ((with_reducible refine gate_callee (f := 57) rfl ?_); refine goesL_ (some 37) rfl rfl Tryd.func57 (by kernel_rfl) rfl #[.slice A0_0 l0_0.length c0_0, .int .i64 4] rfl Z3 ?_; (with_reducible refine (tabardref13_count.calls kj10 _ _ l0_0 4 t170 _ ?side1 ?side2 A16.out).mono ?_); (case side1 => exact Z1); (case side2 => exact Z39); rintro e w' ⟨rfl, ⟨nd, rfl⟩⟩; refine ⟨_, rfl, ?_⟩) | ((with_reducible refine gate_callee (f := 57) rfl ?_); refine goesL_ (some 40) rfl rfl Tryd.func57 (by kernel_rfl) rfl #[.slice A0_0 l0_0.length c0_0, .int .i64 5] rfl Z3 ?_; (with_reducible refine (tabardref13_count.calls kj10 _ _ l0_0 5 t171 _ ?side1 ?side2 A17.out).mono ?_); (case side1 => exact Z1); (case side2 => exact Z39); rintro e w' ⟨rfl, ⟨nd, rfl⟩⟩; refine ⟨_, rfl, ?_⟩) | ((with_reducible refine gate_callee (f := 57) rfl ?_); refine goesL_ (some 43) rfl rfl Tryd.func57 (by kernel_rfl) rfl #[.slice A0_0 l0_0.length c0_0, .int .i64 6] rfl Z3 ?_; (with_reducible refine (tabardref13_count.calls kj10 _ _ l0_0 6 t172 _ ?side1 ?side2 A18.out).mono ?_); (case side1 => exact Z1); (case side2 => exact Z39); rintro e w' ⟨rfl, ⟨nd, rfl⟩⟩; refine ⟨_, rfl, ?_⟩) | ((with_reducible refine gate_callee (f := 57) rfl ?_); refine goesL_ (some 47) rfl rfl Tryd.func57 (by kernel_rfl) rfl #[.slice A0_0 l0_0.length c0_0, .int .i64 7] rfl Z3 ?_; (with_reducible refine (tabardref13_count.calls kj10 _ _ l0_0 7 t173 _ ?side1 ?side2 A19.out).mono ?_); (case side1 => exact Z1); (case side2 => exact Z39); rintro e w' ⟨rfl, ⟨nd, rfl⟩⟩; refine ⟨_, rfl, ?_⟩) | ((with_reducible refine gate_callee (f := 57) rfl ?_); refine goesL_ (some 66) rfl rfl Tryd.func57 (by kernel_rfl) rfl #[.slice A0_0 l0_0.length c0_0, .int .i64 8] rfl Z3 ?_; (with_reducible refine (tabardref13_count.calls kj10 _ _ l0_0 8 t176 _ ?side1 ?side2 A26.out).mono ?_); (case side1 => exact Z1); (case side2 => exact Z39); rintro e w' ⟨rfl, ⟨nd, rfl⟩⟩; refine ⟨_, rfl, ?_⟩) | ((with_reducible refine gate_callee (f := 57) rfl ?_); refine goesL_ (some 72) rfl rfl Tryd.func57 (by kernel_rfl) rfl #[.slice A0_0 l0_0.length c0_0, .int .i64 9] rfl Z3 ?_; (with_reducible refine (tabardref13_count.calls kj10 _ _ l0_0 9 t177 _ ?side1 ?side2 A28.out).mono ?_); (case side1 => exact Z1); (case side2 => exact Z39); rintro e w' ⟨rfl, ⟨nd, rfl⟩⟩; refine ⟨_, rfl, ?_⟩))
          go_ret
          exact Z11
         ·replace c30 := Bool.eq_false_iff.mpr c30
          subst c30
          have H1 : (some 0) = some r := by rw [if_neg (show ¬ (false = true) by decide)] at H; exact H
          clear H
          have H := H1
          clear H1
          obtain rfl := Option.some.inj H
          go_wp2_with (first | ((with_reducible refine gate_callee (f := 57) rfl ?_); refine goesL_ (some 35) rfl rfl Tryd.func57 (by kernel_rfl) rfl #[.slice A0_0 l0_0.length c0_0, .int .i64 3] rfl Z3 ?_; (with_reducible refine (tabardref13_count.calls kj10 _ _ l0_0 3 t169 _ ?side1 ?side2 A15.out).mono ?_); (case side1 => exact Z7); (case side2 => exact Z39); rintro e w' ⟨rfl, ⟨nd, rfl⟩⟩; refine ⟨_, rfl, ?_⟩) | ((with_reducible refine gate_callee (f := 57) rfl ?_); refine goesL_ (some 37) rfl rfl Tryd.func57 (by kernel_rfl) rfl #[.slice A0_0 l0_0.length c0_0, .int .i64 4] rfl Z3 ?_; (with_reducible refine (tabardref13_count.calls kj10 _ _ l0_0 4 t170 _ ?side1 ?side2 A16.out).mono ?_); (case side1 => exact Z1); (case side2 => exact Z39); rintro e w' ⟨rfl, ⟨nd, rfl⟩⟩; refine ⟨_, rfl, ?_⟩) | ((with_reducible refine gate_callee (f := 57) rfl ?_); refine goesL_ (some 40) rfl rfl Tryd.func57 (by kernel_rfl) rfl #[.slice A0_0 l0_0.length c0_0, .int .i64 5] rfl Z3 ?_; (with_reducible refine (tabardref13_count.calls kj10 _ _ l0_0 5 t171 _ ?side1 ?side2 A17.out).mono ?_); (case side1 => exact Z1); (case side2 => exact Z39); rintro e w' ⟨rfl, ⟨nd, rfl⟩⟩; refine ⟨_, rfl, ?_⟩) | ((with_reducible refine gate_callee (f := 57) rfl ?_); refine goesL_ (some 43) rfl rfl Tryd.func57 (by kernel_rfl) rfl #[.slice A0_0 l0_0.length c0_0, .int .i64 6] rfl Z3 ?_; (with_reducible refine (tabardref13_count.calls kj10 _ _ l0_0 6 t172 _ ?side1 ?side2 A18.out).mono ?_); (case side1 => exact Z1); (case side2 => exact Z39); rintro e w' ⟨rfl, ⟨nd, rfl⟩⟩; refine ⟨_, rfl, ?_⟩) | ((with_reducible refine gate_callee (f := 57) rfl ?_); refine goesL_ (some 47) rfl rfl Tryd.func57 (by kernel_rfl) rfl #[.slice A0_0 l0_0.length c0_0, .int .i64 7] rfl Z3 ?_; (with_reducible refine (tabardref13_count.calls kj10 _ _ l0_0 7 t173 _ ?side1 ?side2 A19.out).mono ?_); (case side1 => exact Z1); (case side2 => exact Z39); rintro e w' ⟨rfl, ⟨nd, rfl⟩⟩; refine ⟨_, rfl, ?_⟩) | ((with_reducible refine gate_callee (f := 57) rfl ?_); refine goesL_ (some 66) rfl rfl Tryd.func57 (by kernel_rfl) rfl #[.slice A0_0 l0_0.length c0_0, .int .i64 8] rfl Z3 ?_; (with_reducible refine (tabardref13_count.calls kj10 _ _ l0_0 8 t176 _ ?side1 ?side2 A26.out).mono ?_); (case side1 => exact Z1); (case side2 => exact Z39); rintro e w' ⟨rfl, ⟨nd, rfl⟩⟩; refine ⟨_, rfl, ?_⟩) | ((with_reducible refine gate_callee (f := 57) rfl ?_); refine goesL_ (some 72) rfl rfl Tryd.func57 (by kernel_rfl) rfl #[.slice A0_0 l0_0.length c0_0, .int .i64 9] rfl Z3 ?_; (with_reducible refine (tabardref13_count.calls kj10 _ _ l0_0 9 t177 _ ?side1 ?side2 A28.out).mono ?_); (case side1 => exact Z1); (case side2 => exact Z39); rintro e w' ⟨rfl, ⟨nd, rfl⟩⟩; refine ⟨_, rfl, ?_⟩))
          go_ret
          exact Z11
        ·rw [if_neg c29] at H
         have c29b0 : ((wrap64 ((wrap64 (t168 + (wrap64 ((wrap64 ((wrap64 (t169 + t170)) + t171)) + t172)))) + t177)) == 0) = false := beq_eq_false_iff_ne.mpr c29
         have c29b1 : ((wrap64 ((wrap64 (t168 + (wrap64 ((wrap64 ((wrap64 (t169 + t170)) + t171)) + t172)))) + t177)) != 0) = true := bne_iff_ne.mpr c29
         obtain rfl := Option.some.inj H
         go_wp2_with (first | ((with_reducible refine gate_callee (f := 57) rfl ?_); refine goesL_ (some 35) rfl rfl Tryd.func57 (by kernel_rfl) rfl #[.slice A0_0 l0_0.length c0_0, .int .i64 3] rfl Z3 ?_; (with_reducible refine (tabardref13_count.calls kj10 _ _ l0_0 3 t169 _ ?side1 ?side2 A15.out).mono ?_); (case side1 => exact Z7); (case side2 => exact Z39); rintro e w' ⟨rfl, ⟨nd, rfl⟩⟩; refine ⟨_, rfl, ?_⟩) | ((with_reducible refine gate_callee (f := 57) rfl ?_); refine goesL_ (some 37) rfl rfl Tryd.func57 (by kernel_rfl) rfl #[.slice A0_0 l0_0.length c0_0, .int .i64 4] rfl Z3 ?_; (with_reducible refine (tabardref13_count.calls kj10 _ _ l0_0 4 t170 _ ?side1 ?side2 A16.out).mono ?_); (case side1 => exact Z1); (case side2 => exact Z39); rintro e w' ⟨rfl, ⟨nd, rfl⟩⟩; refine ⟨_, rfl, ?_⟩) | ((with_reducible refine gate_callee (f := 57) rfl ?_); refine goesL_ (some 40) rfl rfl Tryd.func57 (by kernel_rfl) rfl #[.slice A0_0 l0_0.length c0_0, .int .i64 5] rfl Z3 ?_; (with_reducible refine (tabardref13_count.calls kj10 _ _ l0_0 5 t171 _ ?side1 ?side2 A17.out).mono ?_); (case side1 => exact Z1); (case side2 => exact Z39); rintro e w' ⟨rfl, ⟨nd, rfl⟩⟩; refine ⟨_, rfl, ?_⟩) | ((with_reducible refine gate_callee (f := 57) rfl ?_); refine goesL_ (some 43) rfl rfl Tryd.func57 (by kernel_rfl) rfl #[.slice A0_0 l0_0.length c0_0, .int .i64 6] rfl Z3 ?_; (with_reducible refine (tabardref13_count.calls kj10 _ _ l0_0 6 t172 _ ?side1 ?side2 A18.out).mono ?_); (case side1 => exact Z1); (case side2 => exact Z39); rintro e w' ⟨rfl, ⟨nd, rfl⟩⟩; refine ⟨_, rfl, ?_⟩) | ((with_reducible refine gate_callee (f := 57) rfl ?_); refine goesL_ (some 47) rfl rfl Tryd.func57 (by kernel_rfl) rfl #[.slice A0_0 l0_0.length c0_0, .int .i64 7] rfl Z3 ?_; (with_reducible refine (tabardref13_count.calls kj10 _ _ l0_0 7 t173 _ ?side1 ?side2 A19.out).mono ?_); (case side1 => exact Z1); (case side2 => exact Z39); rintro e w' ⟨rfl, ⟨nd, rfl⟩⟩; refine ⟨_, rfl, ?_⟩) | ((with_reducible refine gate_callee (f := 57) rfl ?_); refine goesL_ (some 66) rfl rfl Tryd.func57 (by kernel_rfl) rfl #[.slice A0_0 l0_0.length c0_0, .int .i64 8] rfl Z3 ?_; (with_reducible refine (tabardref13_count.calls kj10 _ _ l0_0 8 t176 _ ?side1 ?side2 A26.out).mono ?_); (case side1 => exact Z1); (case side2 => exact Z39); rintro e w' ⟨rfl, ⟨nd, rfl⟩⟩; refine ⟨_, rfl, ?_⟩) | ((with_reducible refine gate_callee (f := 57) rfl ?_); refine goesL_ (some 72) rfl rfl Tryd.func57 (by kernel_rfl) rfl #[.slice A0_0 l0_0.length c0_0, .int .i64 9] rfl Z3 ?_; (with_reducible refine (tabardref13_count.calls kj10 _ _ l0_0 9 t177 _ ?side1 ?side2 A28.out).mono ?_); (case side1 => exact Z1); (case side2 => exact Z39); rintro e w' ⟨rfl, ⟨nd, rfl⟩⟩; refine ⟨_, rfl, ?_⟩))
         go_ret
         exact Z11
       ·rw [if_neg c27] at H
        have c27b0 : decide (0 < t176) = false := decide_eq_false c27
        clear c27
        by_cases c31 : (wrap64 (t168 + (wrap64 ((wrap64 ((wrap64 (t169 + t170)) + t171)) + t172)))) = 0
        ·rw [if_pos c31] at H
         have c31b0 : ((wrap64 (t168 + (wrap64 ((wrap64 ((wrap64 (t169 + t170)) + t171)) + t172)))) == 0) = true := beq_iff_eq.mpr c31
         have c31b1 : ((wrap64 (t168 + (wrap64 ((wrap64 ((wrap64 (t169 + t170)) + t171)) + t172)))) != 0) = false := bne_eq_false_iff_eq.mpr c31
         clear c31
         by_cases c32 : x7_10 = true
         ·subst c32
          have H1 : (some 1) = some r := by rw [if_pos rfl] at H; exact H
          clear H
          have H := H1
          clear H1
          obtain rfl := Option.some.inj H
          go_wp2_with (first | ((with_reducible refine gate_callee (f := 57) rfl ?_); refine goesL_ (some 35) rfl rfl Tryd.func57 (by kernel_rfl) rfl #[.slice A0_0 l0_0.length c0_0, .int .i64 3] rfl Z3 ?_; (with_reducible refine (tabardref13_count.calls kj10 _ _ l0_0 3 t169 _ ?side1 ?side2 A15.out).mono ?_); (case side1 => exact Z7); (case side2 => exact Z39); rintro e w' ⟨rfl, ⟨nd, rfl⟩⟩; refine ⟨_, rfl, ?_⟩) | ((with_reducible refine gate_callee (f := 57) rfl ?_); refine goesL_ (some 37) rfl rfl Tryd.func57 (by kernel_rfl) rfl #[.slice A0_0 l0_0.length c0_0, .int .i64 4] rfl Z3 ?_; (with_reducible refine (tabardref13_count.calls kj10 _ _ l0_0 4 t170 _ ?side1 ?side2 A16.out).mono ?_); (case side1 => exact Z1); (case side2 => exact Z39); rintro e w' ⟨rfl, ⟨nd, rfl⟩⟩; refine ⟨_, rfl, ?_⟩) | ((with_reducible refine gate_callee (f := 57) rfl ?_); refine goesL_ (some 40) rfl rfl Tryd.func57 (by kernel_rfl) rfl #[.slice A0_0 l0_0.length c0_0, .int .i64 5] rfl Z3 ?_; (with_reducible refine (tabardref13_count.calls kj10 _ _ l0_0 5 t171 _ ?side1 ?side2 A17.out).mono ?_); (case side1 => exact Z1); (case side2 => exact Z39); rintro e w' ⟨rfl, ⟨nd, rfl⟩⟩; refine ⟨_, rfl, ?_⟩) | ((with_reducible refine gate_callee (f := 57) rfl ?_); refine goesL_ (some 43) rfl rfl Tryd.func57 (by kernel_rfl) rfl #[.slice A0_0 l0_0.length c0_0, .int .i64 6] rfl Z3 ?_; (with_reducible refine (tabardref13_count.calls kj10 _ _ l0_0 6 t172 _ ?side1 ?side2 A18.out).mono ?_); (case side1 => exact Z1); (case side2 => exact Z39); rintro e w' ⟨rfl, ⟨nd, rfl⟩⟩; refine ⟨_, rfl, ?_⟩) | ((with_reducible refine gate_callee (f := 57) rfl ?_); refine goesL_ (some 47) rfl rfl Tryd.func57 (by kernel_rfl) rfl #[.slice A0_0 l0_0.length c0_0, .int .i64 7] rfl Z3 ?_; (with_reducible refine (tabardref13_count.calls kj10 _ _ l0_0 7 t173 _ ?side1 ?side2 A19.out).mono ?_); (case side1 => exact Z1); (case side2 => exact Z39); rintro e w' ⟨rfl, ⟨nd, rfl⟩⟩; refine ⟨_, rfl, ?_⟩) | ((with_reducible refine gate_callee (f := 57) rfl ?_); refine goesL_ (some 66) rfl rfl Tryd.func57 (by kernel_rfl) rfl #[.slice A0_0 l0_0.length c0_0, .int .i64 8] rfl Z3 ?_; (with_reducible refine (tabardref13_count.calls kj10 _ _ l0_0 8 t176 _ ?side1 ?side2 A26.out).mono ?_); (case side1 => exact Z1); (case side2 => exact Z39); rintro e w' ⟨rfl, ⟨nd, rfl⟩⟩; refine ⟨_, rfl, ?_⟩))
          go_ret
          exact Z11
         ·replace c32 := Bool.eq_false_iff.mpr c32
          subst c32
          have H1 : (some 0) = some r := by rw [if_neg (show ¬ (false = true) by decide)] at H; exact H
          clear H
          have H := H1
          clear H1
          obtain rfl := Option.some.inj H
          go_wp2_with (first | ((with_reducible refine gate_callee (f := 57) rfl ?_); refine goesL_ (some 35) rfl rfl Tryd.func57 (by kernel_rfl) rfl #[.slice A0_0 l0_0.length c0_0, .int .i64 3] rfl Z3 ?_; (with_reducible refine (tabardref13_count.calls kj10 _ _ l0_0 3 t169 _ ?side1 ?side2 A15.out).mono ?_); (case side1 => exact Z7); (case side2 => exact Z39); rintro e w' ⟨rfl, ⟨nd, rfl⟩⟩; refine ⟨_, rfl, ?_⟩) | ((with_reducible refine gate_callee (f := 57) rfl ?_); refine goesL_ (some 37) rfl rfl Tryd.func57 (by kernel_rfl) rfl #[.slice A0_0 l0_0.length c0_0, .int .i64 4] rfl Z3 ?_; (with_reducible refine (tabardref13_count.calls kj10 _ _ l0_0 4 t170 _ ?side1 ?side2 A16.out).mono ?_); (case side1 => exact Z1); (case side2 => exact Z39); rintro e w' ⟨rfl, ⟨nd, rfl⟩⟩; refine ⟨_, rfl, ?_⟩) | ((with_reducible refine gate_callee (f := 57) rfl ?_); refine goesL_ (some 40) rfl rfl Tryd.func57 (by kernel_rfl) rfl #[.slice A0_0 l0_0.length c0_0, .int .i64 5] rfl Z3 ?_; (with_reducible refine (tabardref13_count.calls kj10 _ _ l0_0 5 t171 _ ?side1 ?side2 A17.out).mono ?_); (case side1 => exact Z1); (case side2 => exact Z39); rintro e w' ⟨rfl, ⟨nd, rfl⟩⟩; refine ⟨_, rfl, ?_⟩) | ((with_reducible refine gate_callee (f := 57) rfl ?_); refine goesL_ (some 43) rfl rfl Tryd.func57 (by kernel_rfl) rfl #[.slice A0_0 l0_0.length c0_0, .int .i64 6] rfl Z3 ?_; (with_reducible refine (tabardref13_count.calls kj10 _ _ l0_0 6 t172 _ ?side1 ?side2 A18.out).mono ?_); (case side1 => exact Z1); (case side2 => exact Z39); rintro e w' ⟨rfl, ⟨nd, rfl⟩⟩; refine ⟨_, rfl, ?_⟩) | ((with_reducible refine gate_callee (f := 57) rfl ?_); refine goesL_ (some 47) rfl rfl Tryd.func57 (by kernel_rfl) rfl #[.slice A0_0 l0_0.length c0_0, .int .i64 7] rfl Z3 ?_; (with_reducible refine (tabardref13_count.calls kj10 _ _ l0_0 7 t173 _ ?side1 ?side2 A19.out).mono ?_); (case side1 => exact Z1); (case side2 => exact Z39); rintro e w' ⟨rfl, ⟨nd, rfl⟩⟩; refine ⟨_, rfl, ?_⟩) | ((with_reducible refine gate_callee (f := 57) rfl ?_); refine goesL_ (some 66) rfl rfl Tryd.func57 (by kernel_rfl) rfl #[.slice A0_0 l0_0.length c0_0, .int .i64 8] rfl Z3 ?_; (with_reducible refine (tabardref13_count.calls kj10 _ _ l0_0 8 t176 _ ?side1 ?side2 A26.out).mono ?_); (case side1 => exact Z1); (case side2 => exact Z39); rintro e w' ⟨rfl, ⟨nd, rfl⟩⟩; refine ⟨_, rfl, ?_⟩))
          go_ret
          exact Z11
        ·rw [if_neg c31] at H
         have c31b0 : ((wrap64 (t168 + (wrap64 ((wrap64 ((wrap64 (t169 + t170)) + t171)) + t172)))) == 0) = false := beq_eq_false_iff_ne.mpr c31
         have c31b1 : ((wrap64 (t168 + (wrap64 ((wrap64 ((wrap64 (t169 + t170)) + t171)) + t172)))) != 0) = true := bne_iff_ne.mpr c31
         replace H := Option.bind_eq_some_iff.mp H
         obtain ⟨t178, A330, H⟩ := H
         replace H : (if t178 > 0 then (if x7_10 = true then ((tabardref13_fraction.f kj10 l0_0).bind fun t179 => (some t179)) else (some 0)) else ((tabardref13_number.f kj10 l0_0 a0_1 a0_2).bind fun t180 => (some t180))) = some r := H
         have A33 := Aside0.mk A330
         clear A330
         by_cases c34 : t178 > 0
         ·rw [if_pos c34] at H
          have c34b0 : decide (0 < t178) = true := decide_eq_true c34
          clear c34
          by_cases c35 : x7_10 = true
          ·subst c35
           have H1 : ((tabardref13_fraction.f kj10 l0_0).bind fun t179 => (some t179)) = some r := by rw [if_pos rfl] at H; exact H
           clear H
           have H := H1
           clear H1
           replace H := Option.bind_eq_some_iff.mp H
           obtain ⟨t179, A360, H⟩ := H
           replace H : (some t179) = some r := H
           have A36 := Aside0.mk A360
           clear A360
           obtain rfl := Option.some.inj H
           go_wp2_with (first | ((with_reducible refine gate_callee (f := 57) rfl ?_); refine goesL_ (some 35) rfl rfl Tryd.func57 (by kernel_rfl) rfl #[.slice A0_0 l0_0.length c0_0, .int .i64 3] rfl Z3 ?_; (with_reducible refine (tabardref13_count.calls kj10 _ _ l0_0 3 t169 _ ?side1 ?side2 A15.out).mono ?_); (case side1 => exact Z7); (case side2 => exact Z39); rintro e w' ⟨rfl, ⟨nd, rfl⟩⟩; refine ⟨_, rfl, ?_⟩) | ((with_reducible refine gate_callee (f := 57) rfl ?_); refine goesL_ (some 37) rfl rfl Tryd.func57 (by kernel_rfl) rfl #[.slice A0_0 l0_0.length c0_0, .int .i64 4] rfl Z3 ?_; (with_reducible refine (tabardref13_count.calls kj10 _ _ l0_0 4 t170 _ ?side1 ?side2 A16.out).mono ?_); (case side1 => exact Z1); (case side2 => exact Z39); rintro e w' ⟨rfl, ⟨nd, rfl⟩⟩; refine ⟨_, rfl, ?_⟩) | ((with_reducible refine gate_callee (f := 57) rfl ?_); refine goesL_ (some 40) rfl rfl Tryd.func57 (by kernel_rfl) rfl #[.slice A0_0 l0_0.length c0_0, .int .i64 5] rfl Z3 ?_; (with_reducible refine (tabardref13_count.calls kj10 _ _ l0_0 5 t171 _ ?side1 ?side2 A17.out).mono ?_); (case side1 => exact Z1); (case side2 => exact Z39); rintro e w' ⟨rfl, ⟨nd, rfl⟩⟩; refine ⟨_, rfl, ?_⟩) | ((with_reducible refine gate_callee (f := 57) rfl ?_); refine goesL_ (some 43) rfl rfl Tryd.func57 (by kernel_rfl) rfl #[.slice A0_0 l0_0.length c0_0, .int .i64 6] rfl Z3 ?_; (with_reducible refine (tabardref13_count.calls kj10 _ _ l0_0 6 t172 _ ?side1 ?side2 A18.out).mono ?_); (case side1 => exact Z1); (case side2 => exact Z39); rintro e w' ⟨rfl, ⟨nd, rfl⟩⟩; refine ⟨_, rfl, ?_⟩) | ((with_reducible refine gate_callee (f := 57) rfl ?_); refine goesL_ (some 47) rfl rfl Tryd.func57 (by kernel_rfl) rfl #[.slice A0_0 l0_0.length c0_0, .int .i64 7] rfl Z3 ?_; (with_reducible refine (tabardref13_count.calls kj10 _ _ l0_0 7 t173 _ ?side1 ?side2 A19.out).mono ?_); (case side1 => exact Z1); (case side2 => exact Z39); rintro e w' ⟨rfl, ⟨nd, rfl⟩⟩; refine ⟨_, rfl, ?_⟩) | ((with_reducible refine gate_callee (f := 57) rfl ?_); refine goesL_ (some 66) rfl rfl Tryd.func57 (by kernel_rfl) rfl #[.slice A0_0 l0_0.length c0_0, .int .i64 8] rfl Z3 ?_; (with_reducible refine (tabardref13_count.calls kj10 _ _ l0_0 8 t176 _ ?side1 ?side2 A26.out).mono ?_); (case side1 => exact Z1); (case side2 => exact Z39); rintro e w' ⟨rfl, ⟨nd, rfl⟩⟩; refine ⟨_, rfl, ?_⟩) | ((with_reducible refine gate_callee (f := 57) rfl ?_); refine goesL_ (some 86) rfl rfl Tryd.func57 (by kernel_rfl) rfl #[.slice A0_0 l0_0.length c0_0, .int .i64 6] rfl Z3 ?_; (with_reducible refine (tabardref13_count.calls kj10 _ _ l0_0 6 t178 _ ?side1 ?side2 A33.out).mono ?_); (case side1 => exact Z1); (case side2 => exact Z39); rintro e w' ⟨rfl, ⟨nd, rfl⟩⟩; refine ⟨_, rfl, ?_⟩) | ((with_reducible refine gate_callee (f := 58) rfl ?_); refine goesL_ (some 90) rfl rfl Tryd.func58 (by kernel_rfl) rfl #[.slice A0_0 l0_0.length c0_0] rfl Z3 ?_; (with_reducible refine (tabardref13_fraction.calls kj10 _ _ l0_0 t179 _ ?side1 ?side2 A36.out).mono ?_); (case side1 => exact Z1); (case side2 => exact Z39); rintro e w' ⟨rfl, ⟨nd, rfl⟩⟩; refine ⟨_, rfl, ?_⟩))
           go_ret
           exact Z11
          ·replace c35 := Bool.eq_false_iff.mpr c35
           subst c35
           have H1 : (some 0) = some r := by rw [if_neg (show ¬ (false = true) by decide)] at H; exact H
           clear H
           have H := H1
           clear H1
           obtain rfl := Option.some.inj H
           go_wp2_with (first | ((with_reducible refine gate_callee (f := 57) rfl ?_); refine goesL_ (some 35) rfl rfl Tryd.func57 (by kernel_rfl) rfl #[.slice A0_0 l0_0.length c0_0, .int .i64 3] rfl Z3 ?_; (with_reducible refine (tabardref13_count.calls kj10 _ _ l0_0 3 t169 _ ?side1 ?side2 A15.out).mono ?_); (case side1 => exact Z7); (case side2 => exact Z39); rintro e w' ⟨rfl, ⟨nd, rfl⟩⟩; refine ⟨_, rfl, ?_⟩) | ((with_reducible refine gate_callee (f := 57) rfl ?_); refine goesL_ (some 37) rfl rfl Tryd.func57 (by kernel_rfl) rfl #[.slice A0_0 l0_0.length c0_0, .int .i64 4] rfl Z3 ?_; (with_reducible refine (tabardref13_count.calls kj10 _ _ l0_0 4 t170 _ ?side1 ?side2 A16.out).mono ?_); (case side1 => exact Z1); (case side2 => exact Z39); rintro e w' ⟨rfl, ⟨nd, rfl⟩⟩; refine ⟨_, rfl, ?_⟩) | ((with_reducible refine gate_callee (f := 57) rfl ?_); refine goesL_ (some 40) rfl rfl Tryd.func57 (by kernel_rfl) rfl #[.slice A0_0 l0_0.length c0_0, .int .i64 5] rfl Z3 ?_; (with_reducible refine (tabardref13_count.calls kj10 _ _ l0_0 5 t171 _ ?side1 ?side2 A17.out).mono ?_); (case side1 => exact Z1); (case side2 => exact Z39); rintro e w' ⟨rfl, ⟨nd, rfl⟩⟩; refine ⟨_, rfl, ?_⟩) | ((with_reducible refine gate_callee (f := 57) rfl ?_); refine goesL_ (some 43) rfl rfl Tryd.func57 (by kernel_rfl) rfl #[.slice A0_0 l0_0.length c0_0, .int .i64 6] rfl Z3 ?_; (with_reducible refine (tabardref13_count.calls kj10 _ _ l0_0 6 t172 _ ?side1 ?side2 A18.out).mono ?_); (case side1 => exact Z1); (case side2 => exact Z39); rintro e w' ⟨rfl, ⟨nd, rfl⟩⟩; refine ⟨_, rfl, ?_⟩) | ((with_reducible refine gate_callee (f := 57) rfl ?_); refine goesL_ (some 47) rfl rfl Tryd.func57 (by kernel_rfl) rfl #[.slice A0_0 l0_0.length c0_0, .int .i64 7] rfl Z3 ?_; (with_reducible refine (tabardref13_count.calls kj10 _ _ l0_0 7 t173 _ ?side1 ?side2 A19.out).mono ?_); (case side1 => exact Z1); (case side2 => exact Z39); rintro e w' ⟨rfl, ⟨nd, rfl⟩⟩; refine ⟨_, rfl, ?_⟩) | ((with_reducible refine gate_callee (f := 57) rfl ?_); refine goesL_ (some 66) rfl rfl Tryd.func57 (by kernel_rfl) rfl #[.slice A0_0 l0_0.length c0_0, .int .i64 8] rfl Z3 ?_; (with_reducible refine (tabardref13_count.calls kj10 _ _ l0_0 8 t176 _ ?side1 ?side2 A26.out).mono ?_); (case side1 => exact Z1); (case side2 => exact Z39); rintro e w' ⟨rfl, ⟨nd, rfl⟩⟩; refine ⟨_, rfl, ?_⟩) | ((with_reducible refine gate_callee (f := 57) rfl ?_); refine goesL_ (some 86) rfl rfl Tryd.func57 (by kernel_rfl) rfl #[.slice A0_0 l0_0.length c0_0, .int .i64 6] rfl Z3 ?_; (with_reducible refine (tabardref13_count.calls kj10 _ _ l0_0 6 t178 _ ?side1 ?side2 A33.out).mono ?_); (case side1 => exact Z1); (case side2 => exact Z39); rintro e w' ⟨rfl, ⟨nd, rfl⟩⟩; refine ⟨_, rfl, ?_⟩))
           go_ret
           exact Z11
         ·rw [if_neg c34] at H
          have c34b0 : decide (0 < t178) = false := decide_eq_false c34
          clear c34
          replace H := Option.bind_eq_some_iff.mp H
          obtain ⟨t180, A370, H⟩ := H
          replace H : (some t180) = some r := H
          have A37 := Aside0.mk A370
          clear A370
          obtain rfl := Option.some.inj H
          go_wp2_with (first | ((with_reducible refine gate_callee (f := 57) rfl ?_); refine goesL_ (some 35) rfl rfl Tryd.func57 (by kernel_rfl) rfl #[.slice A0_0 l0_0.length c0_0, .int .i64 3] rfl Z3 ?_; (with_reducible refine (tabardref13_count.calls kj10 _ _ l0_0 3 t169 _ ?side1 ?side2 A15.out).mono ?_); (case side1 => exact Z7); (case side2 => exact Z39); rintro e w' ⟨rfl, ⟨nd, rfl⟩⟩; refine ⟨_, rfl, ?_⟩) | ((with_reducible refine gate_callee (f := 57) rfl ?_); refine goesL_ (some 37) rfl rfl Tryd.func57 (by kernel_rfl) rfl #[.slice A0_0 l0_0.length c0_0, .int .i64 4] rfl Z3 ?_; (with_reducible refine (tabardref13_count.calls kj10 _ _ l0_0 4 t170 _ ?side1 ?side2 A16.out).mono ?_); (case side1 => exact Z1); (case side2 => exact Z39); rintro e w' ⟨rfl, ⟨nd, rfl⟩⟩; refine ⟨_, rfl, ?_⟩) | ((with_reducible refine gate_callee (f := 57) rfl ?_); refine goesL_ (some 40) rfl rfl Tryd.func57 (by kernel_rfl) rfl #[.slice A0_0 l0_0.length c0_0, .int .i64 5] rfl Z3 ?_; (with_reducible refine (tabardref13_count.calls kj10 _ _ l0_0 5 t171 _ ?side1 ?side2 A17.out).mono ?_); (case side1 => exact Z1); (case side2 => exact Z39); rintro e w' ⟨rfl, ⟨nd, rfl⟩⟩; refine ⟨_, rfl, ?_⟩) | ((with_reducible refine gate_callee (f := 57) rfl ?_); refine goesL_ (some 43) rfl rfl Tryd.func57 (by kernel_rfl) rfl #[.slice A0_0 l0_0.length c0_0, .int .i64 6] rfl Z3 ?_; (with_reducible refine (tabardref13_count.calls kj10 _ _ l0_0 6 t172 _ ?side1 ?side2 A18.out).mono ?_); (case side1 => exact Z1); (case side2 => exact Z39); rintro e w' ⟨rfl, ⟨nd, rfl⟩⟩; refine ⟨_, rfl, ?_⟩) | ((with_reducible refine gate_callee (f := 57) rfl ?_); refine goesL_ (some 47) rfl rfl Tryd.func57 (by kernel_rfl) rfl #[.slice A0_0 l0_0.length c0_0, .int .i64 7] rfl Z3 ?_; (with_reducible refine (tabardref13_count.calls kj10 _ _ l0_0 7 t173 _ ?side1 ?side2 A19.out).mono ?_); (case side1 => exact Z1); (case side2 => exact Z39); rintro e w' ⟨rfl, ⟨nd, rfl⟩⟩; refine ⟨_, rfl, ?_⟩) | ((with_reducible refine gate_callee (f := 57) rfl ?_); refine goesL_ (some 66) rfl rfl Tryd.func57 (by kernel_rfl) rfl #[.slice A0_0 l0_0.length c0_0, .int .i64 8] rfl Z3 ?_; (with_reducible refine (tabardref13_count.calls kj10 _ _ l0_0 8 t176 _ ?side1 ?side2 A26.out).mono ?_); (case side1 => exact Z1); (case side2 => exact Z39); rintro e w' ⟨rfl, ⟨nd, rfl⟩⟩; refine ⟨_, rfl, ?_⟩) | ((with_reducible refine gate_callee (f := 57) rfl ?_); refine goesL_ (some 86) rfl rfl Tryd.func57 (by kernel_rfl) rfl #[.slice A0_0 l0_0.length c0_0, .int .i64 6] rfl Z3 ?_; (with_reducible refine (tabardref13_count.calls kj10 _ _ l0_0 6 t178 _ ?side1 ?side2 A33.out).mono ?_); (case side1 => exact Z1); (case side2 => exact Z39); rintro e w' ⟨rfl, ⟨nd, rfl⟩⟩; refine ⟨_, rfl, ?_⟩; have hcz38_0 : wc.cell? ⟨gb165, 0, none⟩ = some (.slice A0_0 l0_0.length c0_0) := (blk_cell BK165.out 0).trans rfl; have hcz38_1 : wc.cell? ⟨gb165, 1, none⟩ = some (.bool a0_1) := (blk_cell BK165.out 1).trans rfl; have hcz38_2 : wc.cell? ⟨gb165, 2, none⟩ = some (.int .i64 a0_2) := (blk_cell BK165.out 2).trans rfl; have hfz38_0 := blk_frozen BK165.out 0; have hfz38_1 := blk_frozen BK165.out 1; have hfz38_2 := blk_frozen BK165.out 2) | ((with_reducible refine gate_callee (f := 59) rfl ?_); refine goesL_ (some 92) rfl rfl Tryd.func59 (by kernel_rfl) rfl #[.agg #[.slice A0_0 l0_0.length c0_0, .bool a0_1, .int .i64 a0_2]] rfl Z3 ?_; (with_reducible refine (tabardref13_number.calls kj10 _ _ l0_0 a0_1 a0_2 t180 _ ?side1 ?side2 A37.out).mono ?_); (case side1 => exact Z1); (case side2 => exact Z39); rintro e w39 ⟨rfl, hb⟩; refine ⟨_, rfl, ?_⟩; have n0_ := Aside0.mk (blk_below (g := gb165) (o := .cells #[.slice A0_0 l0_0.length c0_0, .bool a0_1, .int .i64 a0_2] 66 (0, 0)) Z61 hb); have n1_ := Aside0.mk (below_step Z52 hb); clear BK165; clear HB; have BK165 := n0_; have HB := n1_; clear n0_ n1_; (try clear hb); (try clear hb2); (try clear hk); (try clear hi)))
          go_ret
          exact Z11
def tabardref13_wrong.l0 : Nat → List (S66) → Int → Option (Int)
 | 0, _, _ => none
 | k + 1, x0, x3 => if x3 < (x0.length : Int) then (if 0 ≤ x3 then ((tabardref13_Shape.f k ((rd_T66 x0 x3).f0) ((rd_T66 x0 x3).f1) ((rd_T66 x0 x3).f2)).bind fun t182 => (if t182 = 0 then (some x3) else (if t182 = 6 then (if x3 < 3 then (if (x0.length : Int) > 1 then (some x3) else (if x3 = 3 then (if t182 = 1 then (tabardref13_wrong.l0 k x0 (wrap64 (x3 + 1))) else (tabardref13_wrong.l0 k x0 (wrap64 (x3 + 1)))) else (tabardref13_wrong.l0 k x0 (wrap64 (x3 + 1))))) else (if x3 = 3 then (if t182 = 1 then (tabardref13_wrong.l0 k x0 (wrap64 (x3 + 1))) else (tabardref13_wrong.l0 k x0 (wrap64 (x3 + 1)))) else (tabardref13_wrong.l0 k x0 (wrap64 (x3 + 1))))) else (if x3 = 3 then (if t182 = 1 then (tabardref13_wrong.l0 k x0 (wrap64 (x3 + 1))) else (some x3)) else (tabardref13_wrong.l0 k x0 (wrap64 (x3 + 1))))))) else (none)) else (some (-1))
def tabardref13_wrong.f (k : Nat) (l0 : List (S66)) : Option (Int) := tabardref13_wrong.l0 k l0 0
theorem tabardref13_wrong.mono_l : ∀ k, (∀ y0 y1, LeO (tabardref13_wrong.l0 k y0 y1) (tabardref13_wrong.l0 (k + 1) y0 y1))
 | 0 => fun _ _ r h => by simp [tabardref13_wrong.l0] at h
 | k + 1 => by
  have ih0 := tabardref13_wrong.mono_l k
  ·intro y0 y1
   unfold tabardref13_wrong.l0
   repeat' first
   | (with_reducible exact ih0 _ _)
   | (with_reducible exact tabardref13_Shape.mono _ _ _ _)
   | (with_reducible exact LeO.refl _)
   | (with_reducible exact LeO.none _)
   | (with_reducible refine LeO.ite ?_ ?_)
   | (with_reducible refine LeO.bind ?_ (fun _ => ?_))
   | exact ih0 _ _
   | exact tabardref13_Shape.mono _ _ _ _
   | exact LeO.none _
   | refine LeO.ite ?_ ?_
   | refine LeO.bind ?_ (fun _ => ?_)
theorem tabardref13_wrong.mono : ∀ a0 k, LeO (tabardref13_wrong.f k a0) (tabardref13_wrong.f (k + 1) a0) := by
 intro a0 k
 have ih0 := tabardref13_wrong.mono_l k
 unfold tabardref13_wrong.f
 repeat' first
   | (with_reducible exact ih0 _ _)
   | (with_reducible exact tabardref13_Shape.mono _ _ _ _)
   | (with_reducible exact LeO.refl _)
   | (with_reducible exact LeO.none _)
   | (with_reducible refine LeO.ite ?_ ?_)
   | (with_reducible refine LeO.bind ?_ (fun _ => ?_))
   | exact ih0 _ _
   | exact tabardref13_Shape.mono _ _ _ _
   | exact LeO.none _
   | refine LeO.ite ?_ ?_
   | refine LeO.bind ?_ (fun _ => ?_)
set_option maxHeartbeats 8000000 in
set_option maxRecDepth 100000 in
theorem tabardref13_wrong.calls (k : Nat) (A0 : Option Addr) (c0 : Nat) (l0 : List (S66)) (r : Int) (w : World) (hr0 : Kd.C k66 w A0 l0.length l0) (hc0 : l0.length ≤ c0) (h : tabardref13_wrong.f k l0 = some r) :
  Calls Tryd.prog 61 #[.slice A0 l0.length c0] w fun e w' => e = .returned (.int .i64 r) ∧ Below w.heap.size w w' := by
 have hu66 := Tryd.underlying66
 have HR0 := Aside0.mk hr0
 have HC0 := Aside0.mk hc0
 clear hr0 hc0
 have HB := Aside0.mk (Below.refl w.heap.size w)
 have H : (tabardref13_wrong.l0 k l0 0) = some r := h
 clear h
 have H' := Aside0.mk H
 clear H
 go_enter Tryd.func61, Tryd.ntmps61
 go_wp2
 go_loopg [3] k (fun kq v3 w' => ∃ (x3_1 : Int), v3 = .int .i64 x3_1 ∧ Aside0 (tabardref13_wrong.l0 kq l0 x3_1 = some r) ∧ Aside0 (kq ≤ k) ∧ Aside0 (Below w.heap.size w w'))
 case atStart => exact Z65
 case round =>
  clear H'
  obtain ⟨x3_1, rfl, HA, HK1, HB⟩ := hrel
  cases gk with
  | zero => exact absurd HA.out (by simp [tabardref13_wrong.l0])
  | succ k1 =>
   have H := HA.out
   clear HA
   simp only [tabardref13_wrong.l0] at H
   by_cases c2 : x3_1 < (l0.length : Int)
   ·rw [if_pos c2] at H
    have c2b0 : decide (x3_1 < (l0.length : Int)) = true := decide_eq_true c2
    clear c2
    by_cases c3 : 0 ≤ x3_1
    ·rw [if_pos c3] at H
     have c3b0 : decide (0 ≤ x3_1) = true := decide_eq_true c3
     clear c3
     replace H := Option.bind_eq_some_iff.mp H
     obtain ⟨t182, A40, H⟩ := H
     replace H : (if t182 = 0 then (some x3_1) else (if t182 = 6 then (if x3_1 < 3 then (if (l0.length : Int) > 1 then (some x3_1) else (if x3_1 = 3 then (if t182 = 1 then (tabardref13_wrong.l0 k1 l0 (wrap64 (x3_1 + 1))) else (tabardref13_wrong.l0 k1 l0 (wrap64 (x3_1 + 1)))) else (tabardref13_wrong.l0 k1 l0 (wrap64 (x3_1 + 1))))) else (if x3_1 = 3 then (if t182 = 1 then (tabardref13_wrong.l0 k1 l0 (wrap64 (x3_1 + 1))) else (tabardref13_wrong.l0 k1 l0 (wrap64 (x3_1 + 1)))) else (tabardref13_wrong.l0 k1 l0 (wrap64 (x3_1 + 1))))) else (if x3_1 = 3 then (if t182 = 1 then (tabardref13_wrong.l0 k1 l0 (wrap64 (x3_1 + 1))) else (some x3_1)) else (tabardref13_wrong.l0 k1 l0 (wrap64 (x3_1 + 1)))))) = some r := H
     have A4 := Aside0.mk A40
     clear A40
     by_cases c5 : t182 = 0
     ·rw [if_pos c5] at H
      have c5b0 : (t182 == 0) = true := beq_iff_eq.mpr c5
      have c5b1 : (t182 != 0) = false := bne_eq_false_iff_eq.mpr c5
      clear c5
      obtain rfl := Option.some.inj H
      have p181 : 0 ≤ (x3_1 : Int) := of_decide_eq_true Z6
      have q181 : x3_1 < (l0.length : Int) := of_decide_eq_true Z6
      obtain ⟨ad181, A181_0, c181_0, e181, hx181_0, hx181_1, hx181_2, hl181_0, hi181_0⟩ := at_T66 HR0.out x3_1 p181 q181
      cases e181
      replace hx181_0 := (HB.out.cell (World.block_lt_of_cell? w _ hx181_0)).trans hx181_0
      replace hx181_1 := (HB.out.cell (World.block_lt_of_cell? w _ hx181_1)).trans hx181_1
      replace hx181_2 := (HB.out.cell (World.block_lt_of_cell? w _ hx181_2)).trans hx181_2
      have HR181_0 := Aside0.mk hi181_0
      have HC181_0 := Aside0.mk hl181_0
      clear hi181_0 hl181_0
      replace p181 := eq_true p181
      replace q181 := eq_true q181
      go_wp2_with (first | ((with_reducible refine gate_callee (f := 32) rfl ?_); refine goesL_ (some 15) rfl rfl Tryd.func32 (by kernel_rfl) rfl #[.agg #[.slice A181_0 ((rd_T66 l0 x3_1).f0).length c181_0, .bool ((rd_T66 l0 x3_1).f1), .int .i64 ((rd_T66 l0 x3_1).f2)]] rfl Z3 ?_; (with_reducible refine (tabardref13_Shape.calls k1 _ _ ((rd_T66 l0 x3_1).f0) ((rd_T66 l0 x3_1).f1) ((rd_T66 l0 x3_1).f2) t182 _ ?side1 ?side2 A4.out).mono ?_); (case side1 => exact Z22); (case side2 => exact HC181_0.out); rintro e w6 ⟨rfl, hb⟩; refine ⟨_, rfl, ?_⟩; have n0_ := Aside0.mk (below_step Z2 hb); clear HB; have HB := n0_; clear n0_; (try clear hb); (try clear hb2); (try clear hk); (try clear hi)))
      go_ret
      exact Z15
     ·rw [if_neg c5] at H
      have c5b0 : (t182 == 0) = false := beq_eq_false_iff_ne.mpr c5
      have c5b1 : (t182 != 0) = true := bne_iff_ne.mpr c5
      by_cases c7 : t182 = 6
      ·rw [if_pos c7] at H
       have c7b0 : (t182 == 6) = true := beq_iff_eq.mpr c7
       have c7b1 : (t182 != 6) = false := bne_eq_false_iff_eq.mpr c7
       clear c7
       by_cases c8 : x3_1 < 3
       ·rw [if_pos c8] at H
        have c8b0 : decide (x3_1 < 3) = true := decide_eq_true c8
        clear c8
        by_cases c9 : (l0.length : Int) > 1
        ·rw [if_pos c9] at H
         have c9b0 : decide (1 < (l0.length : Int)) = true := decide_eq_true c9
         have c9b1 : decide (1 < l0.length) = true := decide_eq_true (by omega)
         clear c9
         obtain rfl := Option.some.inj H
         have p181 : 0 ≤ (x3_1 : Int) := of_decide_eq_true Z6
         have q181 : x3_1 < (l0.length : Int) := of_decide_eq_true Z6
         obtain ⟨ad181, A181_0, c181_0, e181, hx181_0, hx181_1, hx181_2, hl181_0, hi181_0⟩ := at_T66 HR0.out x3_1 p181 q181
         cases e181
         replace hx181_0 := (HB.out.cell (World.block_lt_of_cell? w _ hx181_0)).trans hx181_0
         replace hx181_1 := (HB.out.cell (World.block_lt_of_cell? w _ hx181_1)).trans hx181_1
         replace hx181_2 := (HB.out.cell (World.block_lt_of_cell? w _ hx181_2)).trans hx181_2
         have HR181_0 := Aside0.mk hi181_0
         have HC181_0 := Aside0.mk hl181_0
         clear hi181_0 hl181_0
         replace p181 := eq_true p181
         replace q181 := eq_true q181
         go_wp2_with (first | ((with_reducible refine gate_callee (f := 32) rfl ?_); refine goesL_ (some 15) rfl rfl Tryd.func32 (by kernel_rfl) rfl #[.agg #[.slice A181_0 ((rd_T66 l0 x3_1).f0).length c181_0, .bool ((rd_T66 l0 x3_1).f1), .int .i64 ((rd_T66 l0 x3_1).f2)]] rfl Z3 ?_; (with_reducible refine (tabardref13_Shape.calls k1 _ _ ((rd_T66 l0 x3_1).f0) ((rd_T66 l0 x3_1).f1) ((rd_T66 l0 x3_1).f2) t182 _ ?side1 ?side2 A4.out).mono ?_); (case side1 => exact Z22); (case side2 => exact HC181_0.out); rintro e w10 ⟨rfl, hb⟩; refine ⟨_, rfl, ?_⟩; have n0_ := Aside0.mk (below_step Z2 hb); clear HB; have HB := n0_; clear n0_; (try clear hb); (try clear hb2); (try clear hk); (try clear hi)))
         go_ret
         exact Z15
        ·rw [if_neg c9] at H
         have c9b0 : decide (1 < (l0.length : Int)) = false := decide_eq_false c9
         have c9b1 : decide (1 < l0.length) = false := decide_eq_false (by omega)
         clear c9
         by_cases c11 : x3_1 = 3
         ·rw [if_pos c11] at H
          have c11b0 : (x3_1 == 3) = true := beq_iff_eq.mpr c11
          have c11b1 : (x3_1 != 3) = false := bne_eq_false_iff_eq.mpr c11
          clear c11
          by_cases c12 : t182 = 1
          ·rw [if_pos c12] at H
           have c12b0 : (t182 == 1) = true := beq_iff_eq.mpr c12
           have c12b1 : (t182 != 1) = false := bne_eq_false_iff_eq.mpr c12
           clear c12
           have H' := Aside0.mk H
           clear H
           have p181 : 0 ≤ (x3_1 : Int) := of_decide_eq_true Z6
           have q181 : x3_1 < (l0.length : Int) := of_decide_eq_true Z6
           obtain ⟨ad181, A181_0, c181_0, e181, hx181_0, hx181_1, hx181_2, hl181_0, hi181_0⟩ := at_T66 HR0.out x3_1 p181 q181
           cases e181
           replace hx181_0 := (HB.out.cell (World.block_lt_of_cell? w _ hx181_0)).trans hx181_0
           replace hx181_1 := (HB.out.cell (World.block_lt_of_cell? w _ hx181_1)).trans hx181_1
           replace hx181_2 := (HB.out.cell (World.block_lt_of_cell? w _ hx181_2)).trans hx181_2
           have HR181_0 := Aside0.mk hi181_0
           have HC181_0 := Aside0.mk hl181_0
           clear hi181_0 hl181_0
           replace p181 := eq_true p181
           replace q181 := eq_true q181
           go_wp2_with (first | ((with_reducible refine gate_callee (f := 32) rfl ?_); refine goesL_ (some 15) rfl rfl Tryd.func32 (by kernel_rfl) rfl #[.agg #[.slice A181_0 ((rd_T66 l0 x3_1).f0).length c181_0, .bool ((rd_T66 l0 x3_1).f1), .int .i64 ((rd_T66 l0 x3_1).f2)]] rfl Z3 ?_; (with_reducible refine (tabardref13_Shape.calls k1 _ _ ((rd_T66 l0 x3_1).f0) ((rd_T66 l0 x3_1).f1) ((rd_T66 l0 x3_1).f2) t182 _ ?side1 ?side2 A4.out).mono ?_); (case side1 => exact Z22); (case side2 => exact HC181_0.out); rintro e w13 ⟨rfl, hb⟩; refine ⟨_, rfl, ?_⟩; have n0_ := Aside0.mk (below_step Z2 hb); clear HB; have HB := n0_; clear n0_; (try clear hb); (try clear hb2); (try clear hk); (try clear hi)))
           go_roundg k1
           case measure => exact Z59
           case rel => exact Z26
          ·rw [if_neg c12] at H
           have c12b0 : (t182 == 1) = false := beq_eq_false_iff_ne.mpr c12
           have c12b1 : (t182 != 1) = true := bne_iff_ne.mpr c12
           have H' := Aside0.mk H
           clear H
           have p181 : 0 ≤ (x3_1 : Int) := of_decide_eq_true Z6
           have q181 : x3_1 < (l0.length : Int) := of_decide_eq_true Z6
           obtain ⟨ad181, A181_0, c181_0, e181, hx181_0, hx181_1, hx181_2, hl181_0, hi181_0⟩ := at_T66 HR0.out x3_1 p181 q181
           cases e181
           replace hx181_0 := (HB.out.cell (World.block_lt_of_cell? w _ hx181_0)).trans hx181_0
           replace hx181_1 := (HB.out.cell (World.block_lt_of_cell? w _ hx181_1)).trans hx181_1
           replace hx181_2 := (HB.out.cell (World.block_lt_of_cell? w _ hx181_2)).trans hx181_2
           have HR181_0 := Aside0.mk hi181_0
           have HC181_0 := Aside0.mk hl181_0
           clear hi181_0 hl181_0
           replace p181 := eq_true p181
           replace q181 := eq_true q181
           go_wp2_with (first | ((with_reducible refine gate_callee (f := 32) rfl ?_); refine goesL_ (some 15) rfl rfl Tryd.func32 (by kernel_rfl) rfl #[.agg #[.slice A181_0 ((rd_T66 l0 x3_1).f0).length c181_0, .bool ((rd_T66 l0 x3_1).f1), .int .i64 ((rd_T66 l0 x3_1).f2)]] rfl Z3 ?_; (with_reducible refine (tabardref13_Shape.calls k1 _ _ ((rd_T66 l0 x3_1).f0) ((rd_T66 l0 x3_1).f1) ((rd_T66 l0 x3_1).f2) t182 _ ?side1 ?side2 A4.out).mono ?_); (case side1 => exact Z22); (case side2 => exact HC181_0.out); rintro e w14 ⟨rfl, hb⟩; refine ⟨_, rfl, ?_⟩; have n0_ := Aside0.mk (below_step Z2 hb); clear HB; have HB := n0_; clear n0_; (try clear hb); (try clear hb2); (try clear hk); (try clear hi)))
           go_roundg k1
           case measure => exact Z59
           case rel => exact Z26
         ·rw [if_neg c11] at H
          have c11b0 : (x3_1 == 3) = false := beq_eq_false_iff_ne.mpr c11
          have c11b1 : (x3_1 != 3) = true := bne_iff_ne.mpr c11
          have H' := Aside0.mk H
          clear H
          have p181 : 0 ≤ (x3_1 : Int) := of_decide_eq_true Z6
          have q181 : x3_1 < (l0.length : Int) := of_decide_eq_true Z6
          obtain ⟨ad181, A181_0, c181_0, e181, hx181_0, hx181_1, hx181_2, hl181_0, hi181_0⟩ := at_T66 HR0.out x3_1 p181 q181
          cases e181
          replace hx181_0 := (HB.out.cell (World.block_lt_of_cell? w _ hx181_0)).trans hx181_0
          replace hx181_1 := (HB.out.cell (World.block_lt_of_cell? w _ hx181_1)).trans hx181_1
          replace hx181_2 := (HB.out.cell (World.block_lt_of_cell? w _ hx181_2)).trans hx181_2
          have HR181_0 := Aside0.mk hi181_0
          have HC181_0 := Aside0.mk hl181_0
          clear hi181_0 hl181_0
          replace p181 := eq_true p181
          replace q181 := eq_true q181
          go_wp2_with (first | ((with_reducible refine gate_callee (f := 32) rfl ?_); refine goesL_ (some 15) rfl rfl Tryd.func32 (by kernel_rfl) rfl #[.agg #[.slice A181_0 ((rd_T66 l0 x3_1).f0).length c181_0, .bool ((rd_T66 l0 x3_1).f1), .int .i64 ((rd_T66 l0 x3_1).f2)]] rfl Z3 ?_; (with_reducible refine (tabardref13_Shape.calls k1 _ _ ((rd_T66 l0 x3_1).f0) ((rd_T66 l0 x3_1).f1) ((rd_T66 l0 x3_1).f2) t182 _ ?side1 ?side2 A4.out).mono ?_); (case side1 => exact Z22); (case side2 => exact HC181_0.out); rintro e w15 ⟨rfl, hb⟩; refine ⟨_, rfl, ?_⟩; have n0_ := Aside0.mk (below_step Z2 hb); clear HB; have HB := n0_; clear n0_; (try clear hb); (try clear hb2); (try clear hk); (try clear hi)))
          go_roundg k1
          case measure => exact Z59
          case rel => exact Z26
       ·rw [if_neg c8] at H
        have c8b0 : decide (x3_1 < 3) = false := decide_eq_false c8
        clear c8
        by_cases c16 : x3_1 = 3
        ·rw [if_pos c16] at H
         have c16b0 : (x3_1 == 3) = true := beq_iff_eq.mpr c16
         have c16b1 : (x3_1 != 3) = false := bne_eq_false_iff_eq.mpr c16
         clear c16
         by_cases c17 : t182 = 1
         ·rw [if_pos c17] at H
          have c17b0 : (t182 == 1) = true := beq_iff_eq.mpr c17
          have c17b1 : (t182 != 1) = false := bne_eq_false_iff_eq.mpr c17
          clear c17
          have H' := Aside0.mk H
          clear H
          have p181 : 0 ≤ (x3_1 : Int) := of_decide_eq_true Z6
          have q181 : x3_1 < (l0.length : Int) := of_decide_eq_true Z6
          obtain ⟨ad181, A181_0, c181_0, e181, hx181_0, hx181_1, hx181_2, hl181_0, hi181_0⟩ := at_T66 HR0.out x3_1 p181 q181
          cases e181
          replace hx181_0 := (HB.out.cell (World.block_lt_of_cell? w _ hx181_0)).trans hx181_0
          replace hx181_1 := (HB.out.cell (World.block_lt_of_cell? w _ hx181_1)).trans hx181_1
          replace hx181_2 := (HB.out.cell (World.block_lt_of_cell? w _ hx181_2)).trans hx181_2
          have HR181_0 := Aside0.mk hi181_0
          have HC181_0 := Aside0.mk hl181_0
          clear hi181_0 hl181_0
          replace p181 := eq_true p181
          replace q181 := eq_true q181
          go_wp2_with (first | ((with_reducible refine gate_callee (f := 32) rfl ?_); refine goesL_ (some 15) rfl rfl Tryd.func32 (by kernel_rfl) rfl #[.agg #[.slice A181_0 ((rd_T66 l0 x3_1).f0).length c181_0, .bool ((rd_T66 l0 x3_1).f1), .int .i64 ((rd_T66 l0 x3_1).f2)]] rfl Z3 ?_; (with_reducible refine (tabardref13_Shape.calls k1 _ _ ((rd_T66 l0 x3_1).f0) ((rd_T66 l0 x3_1).f1) ((rd_T66 l0 x3_1).f2) t182 _ ?side1 ?side2 A4.out).mono ?_); (case side1 => exact Z22); (case side2 => exact HC181_0.out); rintro e w18 ⟨rfl, hb⟩; refine ⟨_, rfl, ?_⟩; have n0_ := Aside0.mk (below_step Z2 hb); clear HB; have HB := n0_; clear n0_; (try clear hb); (try clear hb2); (try clear hk); (try clear hi)))
          go_roundg k1
          case measure => exact Z59
          case rel => exact Z26
         ·rw [if_neg c17] at H
          have c17b0 : (t182 == 1) = false := beq_eq_false_iff_ne.mpr c17
          have c17b1 : (t182 != 1) = true := bne_iff_ne.mpr c17
          have H' := Aside0.mk H
          clear H
          have p181 : 0 ≤ (x3_1 : Int) := of_decide_eq_true Z6
          have q181 : x3_1 < (l0.length : Int) := of_decide_eq_true Z6
          obtain ⟨ad181, A181_0, c181_0, e181, hx181_0, hx181_1, hx181_2, hl181_0, hi181_0⟩ := at_T66 HR0.out x3_1 p181 q181
          cases e181
          replace hx181_0 := (HB.out.cell (World.block_lt_of_cell? w _ hx181_0)).trans hx181_0
          replace hx181_1 := (HB.out.cell (World.block_lt_of_cell? w _ hx181_1)).trans hx181_1
          replace hx181_2 := (HB.out.cell (World.block_lt_of_cell? w _ hx181_2)).trans hx181_2
          have HR181_0 := Aside0.mk hi181_0
          have HC181_0 := Aside0.mk hl181_0
          clear hi181_0 hl181_0
          replace p181 := eq_true p181
          replace q181 := eq_true q181
          go_wp2_with (first | ((with_reducible refine gate_callee (f := 32) rfl ?_); refine goesL_ (some 15) rfl rfl Tryd.func32 (by kernel_rfl) rfl #[.agg #[.slice A181_0 ((rd_T66 l0 x3_1).f0).length c181_0, .bool ((rd_T66 l0 x3_1).f1), .int .i64 ((rd_T66 l0 x3_1).f2)]] rfl Z3 ?_; (with_reducible refine (tabardref13_Shape.calls k1 _ _ ((rd_T66 l0 x3_1).f0) ((rd_T66 l0 x3_1).f1) ((rd_T66 l0 x3_1).f2) t182 _ ?side1 ?side2 A4.out).mono ?_); (case side1 => exact Z22); (case side2 => exact HC181_0.out); rintro e w19 ⟨rfl, hb⟩; refine ⟨_, rfl, ?_⟩; have n0_ := Aside0.mk (below_step Z2 hb); clear HB; have HB := n0_; clear n0_; (try clear hb); (try clear hb2); (try clear hk); (try clear hi)))
          go_roundg k1
          case measure => exact Z59
          case rel => exact Z26
        ·rw [if_neg c16] at H
         have c16b0 : (x3_1 == 3) = false := beq_eq_false_iff_ne.mpr c16
         have c16b1 : (x3_1 != 3) = true := bne_iff_ne.mpr c16
         have H' := Aside0.mk H
         clear H
         have p181 : 0 ≤ (x3_1 : Int) := of_decide_eq_true Z6
         have q181 : x3_1 < (l0.length : Int) := of_decide_eq_true Z6
         obtain ⟨ad181, A181_0, c181_0, e181, hx181_0, hx181_1, hx181_2, hl181_0, hi181_0⟩ := at_T66 HR0.out x3_1 p181 q181
         cases e181
         replace hx181_0 := (HB.out.cell (World.block_lt_of_cell? w _ hx181_0)).trans hx181_0
         replace hx181_1 := (HB.out.cell (World.block_lt_of_cell? w _ hx181_1)).trans hx181_1
         replace hx181_2 := (HB.out.cell (World.block_lt_of_cell? w _ hx181_2)).trans hx181_2
         have HR181_0 := Aside0.mk hi181_0
         have HC181_0 := Aside0.mk hl181_0
         clear hi181_0 hl181_0
         replace p181 := eq_true p181
         replace q181 := eq_true q181
         go_wp2_with (first | ((with_reducible refine gate_callee (f := 32) rfl ?_); refine goesL_ (some 15) rfl rfl Tryd.func32 (by kernel_rfl) rfl #[.agg #[.slice A181_0 ((rd_T66 l0 x3_1).f0).length c181_0, .bool ((rd_T66 l0 x3_1).f1), .int .i64 ((rd_T66 l0 x3_1).f2)]] rfl Z3 ?_; (with_reducible refine (tabardref13_Shape.calls k1 _ _ ((rd_T66 l0 x3_1).f0) ((rd_T66 l0 x3_1).f1) ((rd_T66 l0 x3_1).f2) t182 _ ?side1 ?side2 A4.out).mono ?_); (case side1 => exact Z22); (case side2 => exact HC181_0.out); rintro e w20 ⟨rfl, hb⟩; refine ⟨_, rfl, ?_⟩; have n0_ := Aside0.mk (below_step Z2 hb); clear HB; have HB := n0_; clear n0_; (try clear hb); (try clear hb2); (try clear hk); (try clear hi)))
         go_roundg k1
         case measure => exact Z59
         case rel => exact Z26
      ·rw [if_neg c7] at H
       have c7b0 : (t182 == 6) = false := beq_eq_false_iff_ne.mpr c7
       have c7b1 : (t182 != 6) = true := bne_iff_ne.mpr c7
       by_cases c21 : x3_1 = 3
       ·rw [if_pos c21] at H
        have c21b0 : (x3_1 == 3) = true := beq_iff_eq.mpr c21
        have c21b1 : (x3_1 != 3) = false := bne_eq_false_iff_eq.mpr c21
        clear c21
        by_cases c22 : t182 = 1
        ·rw [if_pos c22] at H
         have c22b0 : (t182 == 1) = true := beq_iff_eq.mpr c22
         have c22b1 : (t182 != 1) = false := bne_eq_false_iff_eq.mpr c22
         clear c22
         have H' := Aside0.mk H
         clear H
         have p181 : 0 ≤ (x3_1 : Int) := of_decide_eq_true Z6
         have q181 : x3_1 < (l0.length : Int) := of_decide_eq_true Z6
         obtain ⟨ad181, A181_0, c181_0, e181, hx181_0, hx181_1, hx181_2, hl181_0, hi181_0⟩ := at_T66 HR0.out x3_1 p181 q181
         cases e181
         replace hx181_0 := (HB.out.cell (World.block_lt_of_cell? w _ hx181_0)).trans hx181_0
         replace hx181_1 := (HB.out.cell (World.block_lt_of_cell? w _ hx181_1)).trans hx181_1
         replace hx181_2 := (HB.out.cell (World.block_lt_of_cell? w _ hx181_2)).trans hx181_2
         have HR181_0 := Aside0.mk hi181_0
         have HC181_0 := Aside0.mk hl181_0
         clear hi181_0 hl181_0
         replace p181 := eq_true p181
         replace q181 := eq_true q181
         go_wp2_with (first | ((with_reducible refine gate_callee (f := 32) rfl ?_); refine goesL_ (some 15) rfl rfl Tryd.func32 (by kernel_rfl) rfl #[.agg #[.slice A181_0 ((rd_T66 l0 x3_1).f0).length c181_0, .bool ((rd_T66 l0 x3_1).f1), .int .i64 ((rd_T66 l0 x3_1).f2)]] rfl Z3 ?_; (with_reducible refine (tabardref13_Shape.calls k1 _ _ ((rd_T66 l0 x3_1).f0) ((rd_T66 l0 x3_1).f1) ((rd_T66 l0 x3_1).f2) t182 _ ?side1 ?side2 A4.out).mono ?_); (case side1 => exact Z22); (case side2 => exact HC181_0.out); rintro e w23 ⟨rfl, hb⟩; refine ⟨_, rfl, ?_⟩; have n0_ := Aside0.mk (below_step Z2 hb); clear HB; have HB := n0_; clear n0_; (try clear hb); (try clear hb2); (try clear hk); (try clear hi)))
         go_roundg k1
         case measure => exact Z59
         case rel => exact Z26
        ·rw [if_neg c22] at H
         have c22b0 : (t182 == 1) = false := beq_eq_false_iff_ne.mpr c22
         have c22b1 : (t182 != 1) = true := bne_iff_ne.mpr c22
         obtain rfl := Option.some.inj H
         have p181 : 0 ≤ (x3_1 : Int) := of_decide_eq_true Z6
         have q181 : x3_1 < (l0.length : Int) := of_decide_eq_true Z6
         obtain ⟨ad181, A181_0, c181_0, e181, hx181_0, hx181_1, hx181_2, hl181_0, hi181_0⟩ := at_T66 HR0.out x3_1 p181 q181
         cases e181
         replace hx181_0 := (HB.out.cell (World.block_lt_of_cell? w _ hx181_0)).trans hx181_0
         replace hx181_1 := (HB.out.cell (World.block_lt_of_cell? w _ hx181_1)).trans hx181_1
         replace hx181_2 := (HB.out.cell (World.block_lt_of_cell? w _ hx181_2)).trans hx181_2
         have HR181_0 := Aside0.mk hi181_0
         have HC181_0 := Aside0.mk hl181_0
         clear hi181_0 hl181_0
         replace p181 := eq_true p181
         replace q181 := eq_true q181
         go_wp2_with (first | ((with_reducible refine gate_callee (f := 32) rfl ?_); refine goesL_ (some 15) rfl rfl Tryd.func32 (by kernel_rfl) rfl #[.agg #[.slice A181_0 ((rd_T66 l0 x3_1).f0).length c181_0, .bool ((rd_T66 l0 x3_1).f1), .int .i64 ((rd_T66 l0 x3_1).f2)]] rfl Z3 ?_; (with_reducible refine (tabardref13_Shape.calls k1 _ _ ((rd_T66 l0 x3_1).f0) ((rd_T66 l0 x3_1).f1) ((rd_T66 l0 x3_1).f2) t182 _ ?side1 ?side2 A4.out).mono ?_); (case side1 => exact Z22); (case side2 => exact HC181_0.out); rintro e w24 ⟨rfl, hb⟩; refine ⟨_, rfl, ?_⟩; have n0_ := Aside0.mk (below_step Z2 hb); clear HB; have HB := n0_; clear n0_; (try clear hb); (try clear hb2); (try clear hk); (try clear hi)))
         go_ret
         exact Z15
       ·rw [if_neg c21] at H
        have c21b0 : (x3_1 == 3) = false := beq_eq_false_iff_ne.mpr c21
        have c21b1 : (x3_1 != 3) = true := bne_iff_ne.mpr c21
        have H' := Aside0.mk H
        clear H
        have p181 : 0 ≤ (x3_1 : Int) := of_decide_eq_true Z6
        have q181 : x3_1 < (l0.length : Int) := of_decide_eq_true Z6
        obtain ⟨ad181, A181_0, c181_0, e181, hx181_0, hx181_1, hx181_2, hl181_0, hi181_0⟩ := at_T66 HR0.out x3_1 p181 q181
        cases e181
        replace hx181_0 := (HB.out.cell (World.block_lt_of_cell? w _ hx181_0)).trans hx181_0
        replace hx181_1 := (HB.out.cell (World.block_lt_of_cell? w _ hx181_1)).trans hx181_1
        replace hx181_2 := (HB.out.cell (World.block_lt_of_cell? w _ hx181_2)).trans hx181_2
        have HR181_0 := Aside0.mk hi181_0
        have HC181_0 := Aside0.mk hl181_0
        clear hi181_0 hl181_0
        replace p181 := eq_true p181
        replace q181 := eq_true q181
        go_wp2_with (first | ((with_reducible refine gate_callee (f := 32) rfl ?_); refine goesL_ (some 15) rfl rfl Tryd.func32 (by kernel_rfl) rfl #[.agg #[.slice A181_0 ((rd_T66 l0 x3_1).f0).length c181_0, .bool ((rd_T66 l0 x3_1).f1), .int .i64 ((rd_T66 l0 x3_1).f2)]] rfl Z3 ?_; (with_reducible refine (tabardref13_Shape.calls k1 _ _ ((rd_T66 l0 x3_1).f0) ((rd_T66 l0 x3_1).f1) ((rd_T66 l0 x3_1).f2) t182 _ ?side1 ?side2 A4.out).mono ?_); (case side1 => exact Z22); (case side2 => exact HC181_0.out); rintro e w25 ⟨rfl, hb⟩; refine ⟨_, rfl, ?_⟩; have n0_ := Aside0.mk (below_step Z2 hb); clear HB; have HB := n0_; clear n0_; (try clear hb); (try clear hb2); (try clear hk); (try clear hi)))
        go_roundg k1
        case measure => exact Z59
        case rel => exact Z26
    ·rw [if_neg c3] at H
     exact Z33
   ·rw [if_neg c2] at H
    have c2b0 : decide (x3_1 < (l0.length : Int)) = false := decide_eq_false c2
    clear c2
    obtain rfl := Option.some.inj H
    go_wp2
    go_ret
    exact Z15
end Go.Proofs.YtmbhjogohfcjgaaDoor.P
