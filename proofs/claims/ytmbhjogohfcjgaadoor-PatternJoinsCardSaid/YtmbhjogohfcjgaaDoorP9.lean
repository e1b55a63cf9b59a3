-- Laid by wip/tools/xprint.py, a program of this session's, over the kit's print. Lean checks it.
import Derived.Test.YtmbhjogohfcjgaaDoorP0
namespace Go.Proofs.YtmbhjogohfcjgaaDoor.P
open Go.RowKit Go.Proofs.YtmbhjogohfcjgaaDoorW.PrintWords Go.Proofs.YtmbhjogohfcjgaaDoorW.PrintLast Go.Proofs.YtmbhjogohfcjgaaDoorW.PrintMore
attribute [local go_sem] max2_int min2_int max_two min_two max_three min_three max_four min_four   -- for this text's walks alone
set_option linter.unusedVariables false
set_option linter.unusedSimpArgs false

/-! ### tabardlaw13_same: function 38 -/
mutual
def tabardlaw13_same.l0 : Nat → List (S66) → Int → List (S62) → Option (Bool)
  | 0, _, _, _ => none
  | k + 1, x1, x5, x214000 => if x5 < (x1.length : Int) then (if 0 ≤ x5 then (if x5 < (x214000.length : Int) then (if (((rd_T62 x214000 x5).f1) != ((rd_T66 x1 x5).f1)) = true then (tabardlaw13_same.j1 k x1 x5 true x214000 ((rd_T62 x214000 x5).f0) ((rd_T62 x214000 x5).f1) ((rd_T62 x214000 x5).f2)) else (if ((rd_T62 x214000 x5).f2) = ((rd_T66 x1 x5).f2) then (tabardlaw13_same.j1 k x1 x5 ((((rd_T62 x214000 x5).f0).length : Int) != (((rd_T66 x1 x5).f0).length : Int)) x214000 ((rd_T62 x214000 x5).f0) ((rd_T62 x214000 x5).f1) ((rd_T62 x214000 x5).f2)) else (tabardlaw13_same.j1 k x1 x5 true x214000 ((rd_T62 x214000 x5).f0) ((rd_T62 x214000 x5).f1) ((rd_T62 x214000 x5).f2)))) else (none)) else (none)) else (some true)
def tabardlaw13_same.j1 : Nat → List (S66) → Int → Bool → List (S62) → List (S88) → Bool → Int → Option (Bool)
  | 0, _, _, _, _, _, _, _ => none
  | k + 1, x1, x5, x54, x214000, x216000, x216001, x216002 => if x54 = true then (some false) else (tabardlaw13_same.l1 k x1 x5 0 x214000 x216000 x216001 x216002)
def tabardlaw13_same.l1 : Nat → List (S66) → Int → Int → List (S62) → List (S88) → Bool → Int → Option (Bool)
  | 0, _, _, _, _, _, _, _ => none
  | k + 1, x1, x5, x7, x214000, x216000, x216001, x216002 => if x7 < (x216000.length : Int) then (if 0 ≤ x7 then (if 0 ≤ x5 then (if x5 < (x1.length : Int) then (if x7 < (((rd_T66 x1 x5).f0).length : Int) then (if ((rd_T88 x216000 x7).f0) = ((rd_T98 ((rd_T66 x1 x5).f0) x7).f0) then (if ((rd_T88 x216000 x7).f1).toList = ((rd_T98 ((rd_T66 x1 x5).f0) x7).f1).toList then (tabardlaw13_same.l1 k x1 x5 (wrap64 (x7 + 1)) x214000 x216000 x216001 x216002) else (some false)) else (some false)) else (none)) else (none)) else (none)) else (none)) else (tabardlaw13_same.l0 k x1 (wrap64 (x5 + 1)) x214000)
end
def tabardlaw13_same.f (k : Nat) (l0_0 : List (S62)) (l1 : List (S66)) : Option (Bool) := if (l0_0.length : Int) = (l1.length : Int) then (tabardlaw13_same.l0 k l1 0 l0_0) else (some false)
theorem tabardlaw13_same.mono_l : ∀ k, (∀ y0 y1 y2, LeO (tabardlaw13_same.l0 k y0 y1 y2) (tabardlaw13_same.l0 (k + 1) y0 y1 y2)) ∧ (∀ y0 y1 y2 y3 y4 y5 y6, LeO (tabardlaw13_same.j1 k y0 y1 y2 y3 y4 y5 y6) (tabardlaw13_same.j1 (k + 1) y0 y1 y2 y3 y4 y5 y6)) ∧ (∀ y0 y1 y2 y3 y4 y5 y6, LeO (tabardlaw13_same.l1 k y0 y1 y2 y3 y4 y5 y6) (tabardlaw13_same.l1 (k + 1) y0 y1 y2 y3 y4 y5 y6))
  | 0 => ⟨fun _ _ _ r h => by simp [tabardlaw13_same.l0] at h, fun _ _ _ _ _ _ _ r h => by simp [tabardlaw13_same.j1] at h, fun _ _ _ _ _ _ _ r h => by simp [tabardlaw13_same.l1] at h⟩
  | k + 1 => by
    obtain ⟨ih0, ih1, ih2⟩ := tabardlaw13_same.mono_l k
    refine ⟨?_, ?_, ?_⟩
    · intro y0 y1 y2
      unfold tabardlaw13_same.l0
      repeat' first
      | (with_reducible exact ih0 _ _ _)
      | (with_reducible exact ih1 _ _ _ _ _ _ _)
      | (with_reducible exact ih2 _ _ _ _ _ _ _)
      | (with_reducible exact LeO.refl _)
      | (with_reducible exact LeO.none _)
      | (with_reducible refine LeO.ite ?_ ?_)
      | (with_reducible refine LeO.bind ?_ (fun _ => ?_))
      | exact ih0 _ _ _
      | exact ih1 _ _ _ _ _ _ _
      | exact ih2 _ _ _ _ _ _ _
      | exact LeO.none _
      | refine LeO.ite ?_ ?_
      | refine LeO.bind ?_ (fun _ => ?_)
    · intro y0 y1 y2 y3 y4 y5 y6
      unfold tabardlaw13_same.j1
      repeat' first
      | (with_reducible exact ih0 _ _ _)
      | (with_reducible exact ih1 _ _ _ _ _ _ _)
      | (with_reducible exact ih2 _ _ _ _ _ _ _)
      | (with_reducible exact LeO.refl _)
      | (with_reducible exact LeO.none _)
      | (with_reducible refine LeO.ite ?_ ?_)
      | (with_reducible refine LeO.bind ?_ (fun _ => ?_))
      | exact ih0 _ _ _
      | exact ih1 _ _ _ _ _ _ _
      | exact ih2 _ _ _ _ _ _ _
      | exact LeO.none _
      | refine LeO.ite ?_ ?_
      | refine LeO.bind ?_ (fun _ => ?_)
    · intro y0 y1 y2 y3 y4 y5 y6
      unfold tabardlaw13_same.l1
      repeat' first
      | (with_reducible exact ih0 _ _ _)
      | (with_reducible exact ih1 _ _ _ _ _ _ _)
      | (with_reducible exact ih2 _ _ _ _ _ _ _)
      | (with_reducible exact LeO.refl _)
      | (with_reducible exact LeO.none _)
      | (with_reducible refine LeO.ite ?_ ?_)
      | (with_reducible refine LeO.bind ?_ (fun _ => ?_))
      | exact ih0 _ _ _
      | exact ih1 _ _ _ _ _ _ _
      | exact ih2 _ _ _ _ _ _ _
      | exact LeO.none _
      | refine LeO.ite ?_ ?_
      | refine LeO.bind ?_ (fun _ => ?_)
theorem tabardlaw13_same.mono : ∀ a0 a1 k, LeO (tabardlaw13_same.f k a0 a1) (tabardlaw13_same.f (k + 1) a0 a1) := by
  intro a0 a1 k
  obtain ⟨ih0, ih1, ih2⟩ := tabardlaw13_same.mono_l k
  unfold tabardlaw13_same.f
  repeat' first
      | (with_reducible exact ih0 _ _ _)
      | (with_reducible exact ih1 _ _ _ _ _ _ _)
      | (with_reducible exact ih2 _ _ _ _ _ _ _)
      | (with_reducible exact LeO.refl _)
      | (with_reducible exact LeO.none _)
      | (with_reducible refine LeO.ite ?_ ?_)
      | (with_reducible refine LeO.bind ?_ (fun _ => ?_))
      | exact ih0 _ _ _
      | exact ih1 _ _ _ _ _ _ _
      | exact ih2 _ _ _ _ _ _ _
      | exact LeO.none _
      | refine LeO.ite ?_ ?_
      | refine LeO.bind ?_ (fun _ => ?_)
set_option maxHeartbeats 8000000 in
set_option maxRecDepth 100000 in
theorem tabardlaw13_same.calls (k : Nat) (A0_0 : Option Addr) (c0_0 : Nat) (l0_0 : List (S62)) (A1 : Option Addr) (c1 : Nat) (l1 : List (S66)) (r : Bool) (w : World) (hr0_0 : Kd.C k62 w A0_0 l0_0.length l0_0) (hc0_0 : l0_0.length ≤ c0_0) (hr1 : Kd.C k66 w A1 l1.length l1) (hc1 : l1.length ≤ c1) (h : tabardlaw13_same.f k l0_0 l1 = some r) :
    Calls Tryd.prog 38 #[.agg #[.slice A0_0 l0_0.length c0_0], .slice A1 l1.length c1] w fun e w' => e = .returned (.bool r) ∧ Below w.heap.size w w' := by
  have hu55 := Tryd.underlying55
  have hu62 := Tryd.underlying62
  have HR0_0 := Aside0.mk hr0_0
  have HC0_0 := Aside0.mk hc0_0
  clear hr0_0 hc0_0
  have HR1 := Aside0.mk hr1
  have HC1 := Aside0.mk hc1
  clear hr1 hc1
  have HB := Aside0.mk (Below.refl w.heap.size w)
  have H : (if (l0_0.length : Int) = (l1.length : Int) then (tabardlaw13_same.l0 k l1 0 l0_0) else (some false)) = some r := h
  clear h
  by_cases c3 : (l0_0.length : Int) = (l1.length : Int)
  · rw [if_pos c3] at H
    have c3b0 : ((l0_0.length : Int) == (l1.length : Int)) = true := beq_iff_eq.mpr c3
    have c3b1 : ((l0_0.length : Int) != (l1.length : Int)) = false := bne_eq_false_iff_eq.mpr c3
    have c3b2 : (l0_0.length == l1.length) = true := by first | simpa using c3 | (simp at c3 ⊢; omega)
    clear c3
    have H' := Aside0.mk H
    clear H
    go_enter Tryd.func38, Tryd.ntmps38
    go_wp2_with (first | ((with_reducible refine gate_dst (N := 2) rfl ?_); (try (refine gate_guard (by rfl) ?_; dsimp only)); refine box_event ?hg (N := 2) ?hd (cs := #[.slice A0_0 l0_0.length c0_0]) (t := 55) ?hr ?_; (case hd => rfl); (case hg => rfl); (case hr => first | (go_simp; done) | (go_simp; rfl)); intro gb213 hg w4 hbox hb; have n0_ := Aside0.mk (below_step (by repeat (first | (with_reducible first | exact HB.out | apply below_alloc | apply pw_below_drewN | apply below_drew1) | exact HB.out)) hb); have n1_ := Aside0.mk (hbox); have n2_ := Aside0.mk ((by rw [hg]; exact (below_size (by repeat (first | (with_reducible first | exact HB.out | apply below_alloc | apply pw_below_drewN | apply below_drew1) | exact HB.out))) : w.heap.size ≤ gb213)); have n3_ := Aside0.mk ((by rw [hg]; exact (below_size (by repeat (first | (with_reducible first | exact HB.out | apply below_alloc | apply pw_below_drewN | apply below_drew1) | exact HB.out))) : w.heap.size ≤ gb213)); clear HB; have HB := n0_; have BK213 := n1_; have GW213 := n2_; have GE213 := n3_; clear n0_ n1_ n2_ n3_; clear hb hbox hg; have hcz5_0 : w4.cell? ⟨gb213, 0, none⟩ = some (.slice A0_0 l0_0.length c0_0) := (blk_cell BK213.out 0).trans rfl; have hfz5_0 := blk_frozen BK213.out 0))
    repeat (go_quiet (first | ((with_reducible refine gate_dst (N := 2) rfl ?_); (try (refine gate_guard (by rfl) ?_; dsimp only)); refine box_event ?hg (N := 2) ?hd (cs := #[.slice A0_0 l0_0.length c0_0]) (t := 55) ?hr ?_; (case hd => rfl); (case hg => rfl); (case hr => first | (go_simp; done) | (go_simp; rfl)); intro gb213 hg w4 hbox hb; have n0_ := Aside0.mk (below_step (by repeat (first | (with_reducible first | exact HB.out | apply below_alloc | apply pw_below_drewN | apply below_drew1) | exact HB.out)) hb); have n1_ := Aside0.mk (hbox); have n2_ := Aside0.mk ((by rw [hg]; exact (below_size (by repeat (first | (with_reducible first | exact HB.out | apply below_alloc | apply pw_below_drewN | apply below_drew1) | exact HB.out))) : w.heap.size ≤ gb213)); have n3_ := Aside0.mk ((by rw [hg]; exact (below_size (by repeat (first | (with_reducible first | exact HB.out | apply below_alloc | apply pw_below_drewN | apply below_drew1) | exact HB.out))) : w.heap.size ≤ gb213)); clear HB; have HB := n0_; have BK213 := n1_; have GW213 := n2_; have GE213 := n3_; clear n0_ n1_ n2_ n3_; clear hb hbox hg; have hcz5_0 : w4.cell? ⟨gb213, 0, none⟩ = some (.slice A0_0 l0_0.length c0_0) := (blk_cell BK213.out 0).trans rfl; have hfz5_0 := blk_frozen BK213.out 0)); try go_wp2_with (first | ((with_reducible refine gate_dst (N := 2) rfl ?_); (try (refine gate_guard (by rfl) ?_; dsimp only)); refine box_event ?hg (N := 2) ?hd (cs := #[.slice A0_0 l0_0.length c0_0]) (t := 55) ?hr ?_; (case hd => rfl); (case hg => rfl); (case hr => first | (go_simp; done) | (go_simp; rfl)); intro gb213 hg w4 hbox hb; have n0_ := Aside0.mk (below_step (by repeat (first | (with_reducible first | exact HB.out | apply below_alloc | apply pw_below_drewN | apply below_drew1) | exact HB.out)) hb); have n1_ := Aside0.mk (hbox); have n2_ := Aside0.mk ((by rw [hg]; exact (below_size (by repeat (first | (with_reducible first | exact HB.out | apply below_alloc | apply pw_below_drewN | apply below_drew1) | exact HB.out))) : w.heap.size ≤ gb213)); have n3_ := Aside0.mk ((by rw [hg]; exact (below_size (by repeat (first | (with_reducible first | exact HB.out | apply below_alloc | apply pw_below_drewN | apply below_drew1) | exact HB.out))) : w.heap.size ≤ gb213)); clear HB; have HB := n0_; have BK213 := n1_; have GW213 := n2_; have GE213 := n3_; clear n0_ n1_ n2_ n3_; clear hb hbox hg; have hcz5_0 : w4.cell? ⟨gb213, 0, none⟩ = some (.slice A0_0 l0_0.length c0_0) := (blk_cell BK213.out 0).trans rfl; have hfz5_0 := blk_frozen BK213.out 0)))
    go_loopg [5] k (fun kq v5 w' => ∃ (x5_1 : Int), v5 = .int .i64 x5_1 ∧ Aside0 (tabardlaw13_same.l0 kq l1 x5_1 l0_0 = some r) ∧ Aside0 (kq ≤ k) ∧ Aside0 (w'.heap[gb213]? = some (.cells #[(.slice A0_0 l0_0.length c0_0)] 55 (0, 0))) ∧ Aside0 (Below w.heap.size w w'))
    case atStart => exact ⟨(0), (by first | rfl | (simp; done) | (simp [*]; done) | (simp [bne]; done)), H', ⟨Nat.le_refl _⟩, ⟨by (with_reducible repeat (first | refine blk_drewN ?_ _ | refine blk_drew ?_ | refine blk_alloc ?_ _)); exact BK213.out⟩, ⟨by repeat (first | (with_reducible first | exact HB.out | apply below_alloc | apply pw_below_drewN | apply below_drew1 | refine below_set ?_ GE213.out) | exact HB.out)⟩⟩
    case round =>
      clear H'
      try clear c1
      try clear p2
      try clear c3
      try clear c3b0
      try clear c3b1
      try clear c3b2
      try clear hcz5_0
      try clear hfz5_0
      obtain ⟨x5_1, rfl, HA, HK1, BK213, HB⟩ := hrel
      cases gk with
      | zero => exact absurd HA.out (by simp [tabardlaw13_same.l0])
      | succ k1 =>
        have H := HA.out
        clear HA
        simp only [tabardlaw13_same.l0] at H
        by_cases c6 : x5_1 < (l1.length : Int)
        · rw [if_pos c6] at H
          have c6b0 : decide (x5_1 < (l1.length : Int)) = true := decide_eq_true c6
          clear c6
          by_cases c7 : 0 ≤ x5_1
          · rw [if_pos c7] at H
            have c7b0 : decide (0 ≤ x5_1) = true := decide_eq_true c7
            clear c7
            by_cases c8 : x5_1 < (l0_0.length : Int)
            · rw [if_pos c8] at H
              have c8b0 : decide (x5_1 < (l0_0.length : Int)) = true := decide_eq_true c8
              clear c8
              have HC9 := Aside0.mk H
              clear H
              have hcz10_0 : wr.cell? ⟨gb213, 0, none⟩ = some (.slice A0_0 l0_0.length c0_0) := (blk_cell BK213.out 0).trans rfl
              have hfz10_0 := blk_frozen BK213.out 0
              have p214 : 0 ≤ (x5_1 : Int) := of_decide_eq_true (by first | (with_reducible assumption) | assumption)
              have q214 : x5_1 < (l0_0.length : Int) := of_decide_eq_true (by first | (with_reducible assumption) | assumption)
              obtain ⟨ad214, A214_0, c214_0, e214, hx214_0, hx214_1, hx214_2, hl214_0, hi214_0⟩ := at_T62 HR0_0.out x5_1 p214 q214
              cases e214
              replace hx214_0 := (HB.out.cell (World.block_lt_of_cell? w _ hx214_0)).trans hx214_0
              replace hx214_1 := (HB.out.cell (World.block_lt_of_cell? w _ hx214_1)).trans hx214_1
              replace hx214_2 := (HB.out.cell (World.block_lt_of_cell? w _ hx214_2)).trans hx214_2
              have HR214_0 := Aside0.mk hi214_0
              have HC214_0 := Aside0.mk hl214_0
              clear hi214_0 hl214_0
              replace p214 := eq_true p214
              replace q214 := eq_true q214
              go_upto_region 7 with (first | ((with_reducible refine gate_dst (N := 6) rfl ?_); (try (refine gate_guard (by rfl) ?_; dsimp only)); refine box_event ?hg (N := 6) ?hd (cs := #[.slice none 0 0, .bool false, .int .i64 0]) (t := 62) ?hr ?_; (case hd => rfl); (case hg => rfl); (case hr => first | (go_simp; done) | (go_simp; rfl)); intro gb215 hg w11 hbox hb; have n0_ := Aside0.mk (blk_below (g := gb213) (o := .cells #[.slice (some ad214) l0_0.length c0_0] 55 (0, 0)) (by (with_reducible repeat (first | refine blk_drewN ?_ _ | refine blk_drew ?_ | refine blk_alloc ?_ _)); exact BK213.out) hb); have n1_ := Aside0.mk (below_step (by repeat (first | (with_reducible first | exact HB.out | apply below_alloc | apply pw_below_drewN | apply below_drew1 | refine below_set ?_ GE213.out) | exact HB.out)) hb); have n2_ := Aside0.mk (hbox); have n3_ := Aside0.mk ((by rw [hg]; exact (below_size (by repeat (first | (with_reducible first | exact HB.out | apply below_alloc | apply pw_below_drewN | apply below_drew1 | refine below_set ?_ GE213.out) | exact HB.out))) : w.heap.size ≤ gb215)); have n4_ := Aside0.mk ((by rw [hg]; exact (below_size (by repeat (first | (with_reducible first | exact HB.out | apply below_alloc | apply pw_below_drewN | apply below_drew1 | refine below_set ?_ GE213.out) | exact HB.out))) : w.heap.size ≤ gb215)); have n5_ := Aside0.mk ((by rw [hg]; exact Nat.ne_of_lt (blk_lt (g := gb213) (o := .cells #[.slice (some ad214) l0_0.length c0_0] 55 (0, 0)) (by (with_reducible repeat (first | refine blk_drewN ?_ _ | refine blk_drew ?_ | refine blk_alloc ?_ _)); exact BK213.out)) : gb213 ≠ gb215)); have n6_ := Aside0.mk ((by rw [hg]; exact Nat.ne_of_gt (blk_lt (g := gb213) (o := .cells #[.slice (some ad214) l0_0.length c0_0] 55 (0, 0)) (by (with_reducible repeat (first | refine blk_drewN ?_ _ | refine blk_drew ?_ | refine blk_alloc ?_ _)); exact BK213.out)) : gb215 ≠ gb213)); clear BK213; clear HB; have BK213 := n0_; have HB := n1_; have BK215 := n2_; have GW215 := n3_; have GE215 := n4_; have NB213_215 := n5_; have NB215_213 := n6_; clear n0_ n1_ n2_ n3_ n4_ n5_ n6_; clear hb hbox hg; have hnb12 := NB215_213.out; have hnc12 := NB213_215.out; have hcz13_0 : w11.cell? ⟨gb215, 0, none⟩ = some (.slice none 0 0) := (blk_cell BK215.out 0).trans rfl; have hcz13_1 : w11.cell? ⟨gb215, 1, none⟩ = some (.bool false) := (blk_cell BK215.out 1).trans rfl; have hcz13_2 : w11.cell? ⟨gb215, 2, none⟩ = some (.int .i64 0) := (blk_cell BK215.out 2).trans rfl; have hfz13_0 := blk_frozen BK215.out 0; have hfz13_1 := blk_frozen BK215.out 1; have hfz13_2 := blk_frozen BK215.out 2))
              repeat (go_quiet (first | ((with_reducible refine gate_dst (N := 6) rfl ?_); (try (refine gate_guard (by rfl) ?_; dsimp only)); refine box_event ?hg (N := 6) ?hd (cs := #[.slice none 0 0, .bool false, .int .i64 0]) (t := 62) ?hr ?_; (case hd => rfl); (case hg => rfl); (case hr => first | (go_simp; done) | (go_simp; rfl)); intro gb215 hg w11 hbox hb; have n0_ := Aside0.mk (blk_below (g := gb213) (o := .cells #[.slice (some ad214) l0_0.length c0_0] 55 (0, 0)) (by (with_reducible repeat (first | refine blk_drewN ?_ _ | refine blk_drew ?_ | refine blk_alloc ?_ _)); exact BK213.out) hb); have n1_ := Aside0.mk (below_step (by repeat (first | (with_reducible first | exact HB.out | apply below_alloc | apply pw_below_drewN | apply below_drew1 | refine below_set ?_ GE213.out) | exact HB.out)) hb); have n2_ := Aside0.mk (hbox); have n3_ := Aside0.mk ((by rw [hg]; exact (below_size (by repeat (first | (with_reducible first | exact HB.out | apply below_alloc | apply pw_below_drewN | apply below_drew1 | refine below_set ?_ GE213.out) | exact HB.out))) : w.heap.size ≤ gb215)); have n4_ := Aside0.mk ((by rw [hg]; exact (below_size (by repeat (first | (with_reducible first | exact HB.out | apply below_alloc | apply pw_below_drewN | apply below_drew1 | refine below_set ?_ GE213.out) | exact HB.out))) : w.heap.size ≤ gb215)); have n5_ := Aside0.mk ((by rw [hg]; exact Nat.ne_of_lt (blk_lt (g := gb213) (o := .cells #[.slice (some ad214) l0_0.length c0_0] 55 (0, 0)) (by (with_reducible repeat (first | refine blk_drewN ?_ _ | refine blk_drew ?_ | refine blk_alloc ?_ _)); exact BK213.out)) : gb213 ≠ gb215)); have n6_ := Aside0.mk ((by rw [hg]; exact Nat.ne_of_gt (blk_lt (g := gb213) (o := .cells #[.slice (some ad214) l0_0.length c0_0] 55 (0, 0)) (by (with_reducible repeat (first | refine blk_drewN ?_ _ | refine blk_drew ?_ | refine blk_alloc ?_ _)); exact BK213.out)) : gb215 ≠ gb213)); clear BK213; clear HB; have BK213 := n0_; have HB := n1_; have BK215 := n2_; have GW215 := n3_; have GE215 := n4_; have NB213_215 := n5_; have NB215_213 := n6_; clear n0_ n1_ n2_ n3_ n4_ n5_ n6_; clear hb hbox hg; have hnb12 := NB215_213.out; have hnc12 := NB213_215.out; have hcz13_0 : w11.cell? ⟨gb215, 0, none⟩ = some (.slice none 0 0) := (blk_cell BK215.out 0).trans rfl; have hcz13_1 : w11.cell? ⟨gb215, 1, none⟩ = some (.bool false) := (blk_cell BK215.out 1).trans rfl; have hcz13_2 : w11.cell? ⟨gb215, 2, none⟩ = some (.int .i64 0) := (blk_cell BK215.out 2).trans rfl; have hfz13_0 := blk_frozen BK215.out 0; have hfz13_1 := blk_frozen BK215.out 1; have hfz13_2 := blk_frozen BK215.out 2)); go_upto_region 7 with (first | ((with_reducible refine gate_dst (N := 6) rfl ?_); (try (refine gate_guard (by rfl) ?_; dsimp only)); refine box_event ?hg (N := 6) ?hd (cs := #[.slice none 0 0, .bool false, .int .i64 0]) (t := 62) ?hr ?_; (case hd => rfl); (case hg => rfl); (case hr => first | (go_simp; done) | (go_simp; rfl)); intro gb215 hg w11 hbox hb; have n0_ := Aside0.mk (blk_below (g := gb213) (o := .cells #[.slice (some ad214) l0_0.length c0_0] 55 (0, 0)) (by (with_reducible repeat (first | refine blk_drewN ?_ _ | refine blk_drew ?_ | refine blk_alloc ?_ _)); exact BK213.out) hb); have n1_ := Aside0.mk (below_step (by repeat (first | (with_reducible first | exact HB.out | apply below_alloc | apply pw_below_drewN | apply below_drew1 | refine below_set ?_ GE213.out) | exact HB.out)) hb); have n2_ := Aside0.mk (hbox); have n3_ := Aside0.mk ((by rw [hg]; exact (below_size (by repeat (first | (with_reducible first | exact HB.out | apply below_alloc | apply pw_below_drewN | apply below_drew1 | refine below_set ?_ GE213.out) | exact HB.out))) : w.heap.size ≤ gb215)); have n4_ := Aside0.mk ((by rw [hg]; exact (below_size (by repeat (first | (with_reducible first | exact HB.out | apply below_alloc | apply pw_below_drewN | apply below_drew1 | refine below_set ?_ GE213.out) | exact HB.out))) : w.heap.size ≤ gb215)); have n5_ := Aside0.mk ((by rw [hg]; exact Nat.ne_of_lt (blk_lt (g := gb213) (o := .cells #[.slice (some ad214) l0_0.length c0_0] 55 (0, 0)) (by (with_reducible repeat (first | refine blk_drewN ?_ _ | refine blk_drew ?_ | refine blk_alloc ?_ _)); exact BK213.out)) : gb213 ≠ gb215)); have n6_ := Aside0.mk ((by rw [hg]; exact Nat.ne_of_gt (blk_lt (g := gb213) (o := .cells #[.slice (some ad214) l0_0.length c0_0] 55 (0, 0)) (by (with_reducible repeat (first | refine blk_drewN ?_ _ | refine blk_drew ?_ | refine blk_alloc ?_ _)); exact BK213.out)) : gb215 ≠ gb213)); clear BK213; clear HB; have BK213 := n0_; have HB := n1_; have BK215 := n2_; have GW215 := n3_; have GE215 := n4_; have NB213_215 := n5_; have NB215_213 := n6_; clear n0_ n1_ n2_ n3_ n4_ n5_ n6_; clear hb hbox hg; have hnb12 := NB215_213.out; have hnc12 := NB213_215.out; have hcz13_0 : w11.cell? ⟨gb215, 0, none⟩ = some (.slice none 0 0) := (blk_cell BK215.out 0).trans rfl; have hcz13_1 : w11.cell? ⟨gb215, 1, none⟩ = some (.bool false) := (blk_cell BK215.out 1).trans rfl; have hcz13_2 : w11.cell? ⟨gb215, 2, none⟩ = some (.int .i64 0) := (blk_cell BK215.out 2).trans rfl; have hfz13_0 := blk_frozen BK215.out 0; have hfz13_1 := blk_frozen BK215.out 1; have hfz13_2 := blk_frozen BK215.out 2)))
              (try simp only [Act.put, List.setIfInBounds_toArray, List.set_cons_zero, List.set_cons_succ])
              go_cut [54] (fun v54 wc => ∃ (kq : Nat) (x54_8 : Bool), v54 = .bool x54_8 ∧ Aside0 (tabardlaw13_same.j1 kq l1 x5_1 x54_8 l0_0 ((rd_T62 l0_0 x5_1).f0) ((rd_T62 l0_0 x5_1).f1) ((rd_T62 l0_0 x5_1).f2) = some r) ∧ Aside0 (kq ≤ k1) ∧ Aside0 (wc.heap[gb213]? = some (.cells #[(.slice (some ad214) l0_0.length c0_0)] 55 (0, 0))) ∧ Aside0 (wc.heap[gb215]? = some (.cells #[(.slice A214_0 ((rd_T62 l0_0 x5_1).f0).length c214_0), .bool ((rd_T62 l0_0 x5_1).f1), .int .i64 ((rd_T62 l0_0 x5_1).f2)] 62 (0, 0))) ∧ Aside0 (Below w.heap.size w wc))
              case first =>
                have H := HC9.out
                clear HC9
                by_cases c14 : (((rd_T62 l0_0 x5_1).f1) != ((rd_T66 l1 x5_1).f1)) = true
                · rw [if_pos c14] at H
                  have c14b0 : (((rd_T62 l0_0 x5_1).f1) != ((rd_T66 l1 x5_1).f1)) = true := c14
                  (try (have c14b1 : decide (((rd_T62 l0_0 x5_1).f1) = ((rd_T66 l1 x5_1).f1)) = false := by simpa using c14))
                  (try (have c14b2 : (((rd_T62 l0_0 x5_1).f1) == ((rd_T66 l1 x5_1).f1)) = false := by simpa using c14))
                  (try (have c14b3 : ¬ (((rd_T62 l0_0 x5_1).f1) = ((rd_T66 l1 x5_1).f1)) := by simpa using c14))
                  clear c14
                  (first | rw [c14b0] | (simp only [i64_w, i32_w]; rw [c14b0]) | skip)
                  have H' := Aside0.mk H
                  clear H
                  have hnb15 := NB215_213.out
                  have hnc15 := NB213_215.out
                  have hcz16_0 : w11.cell? ⟨gb215, 0, none⟩ = some (.slice none 0 0) := (blk_cell BK215.out 0).trans rfl
                  have hcz16_1 : w11.cell? ⟨gb215, 1, none⟩ = some (.bool false) := (blk_cell BK215.out 1).trans rfl
                  have hcz16_2 : w11.cell? ⟨gb215, 2, none⟩ = some (.int .i64 0) := (blk_cell BK215.out 2).trans rfl
                  have hfz16_0 := blk_frozen BK215.out 0
                  have hfz16_1 := blk_frozen BK215.out 1
                  have hfz16_2 := blk_frozen BK215.out 2
                  have p216 : 0 ≤ (x5_1 : Int) := of_decide_eq_true (by first | (with_reducible assumption) | assumption)
                  have q216 : x5_1 < (l1.length : Int) := of_decide_eq_true (by first | (with_reducible assumption) | assumption)
                  obtain ⟨ad216, A216_0, c216_0, e216, hx216_0, hx216_1, hx216_2, hl216_0, hi216_0⟩ := at_T66 HR1.out x5_1 p216 q216
                  cases e216
                  have hn216_0 : ad216.block ≠ gb215 := Nat.ne_of_lt (Nat.lt_of_lt_of_le (by have := World.block_lt_of_cell? _ _ hx216_0; first | rwa [add_block] at this | exact this) GW215.out)
                  have hn216_1 : ad216.block ≠ gb215 := Nat.ne_of_lt (Nat.lt_of_lt_of_le (by have := World.block_lt_of_cell? _ _ hx216_0; first | rwa [add_block] at this | exact this) GW215.out)
                  have hn216_2 : ad216.block ≠ gb215 := Nat.ne_of_lt (Nat.lt_of_lt_of_le (by have := World.block_lt_of_cell? _ _ hx216_0; first | rwa [add_block] at this | exact this) GW215.out)
                  replace hx216_0 := (HB.out.cell (World.block_lt_of_cell? w _ hx216_0)).trans hx216_0
                  replace hx216_1 := (HB.out.cell (World.block_lt_of_cell? w _ hx216_1)).trans hx216_1
                  replace hx216_2 := (HB.out.cell (World.block_lt_of_cell? w _ hx216_2)).trans hx216_2
                  have HR216_0 := Aside0.mk hi216_0
                  have HC216_0 := Aside0.mk hl216_0
                  clear hi216_0 hl216_0
                  replace hx216_0 := (cell_far (p := ⟨gb215, 0, none⟩) (by first | (rw [add_block]; exact hn216_0) | (show (Addr.add _ _).block ≠ _; rw [add_block]; exact hn216_0) | exact hn216_0) (.slice A214_0 ((rd_T62 l0_0 x5_1).f0).length c214_0)).trans hx216_0
                  replace hx216_1 := (cell_far (p := ⟨gb215, 0, none⟩) (by first | (rw [add_block]; exact hn216_0) | (show (Addr.add _ _).block ≠ _; rw [add_block]; exact hn216_0) | exact hn216_0) (.slice A214_0 ((rd_T62 l0_0 x5_1).f0).length c214_0)).trans hx216_1
                  replace hx216_2 := (cell_far (p := ⟨gb215, 0, none⟩) (by first | (rw [add_block]; exact hn216_0) | (show (Addr.add _ _).block ≠ _; rw [add_block]; exact hn216_0) | exact hn216_0) (.slice A214_0 ((rd_T62 l0_0 x5_1).f0).length c214_0)).trans hx216_2
                  replace hx216_0 := (cell_far (p := ⟨gb215, 1, none⟩) (by first | (rw [add_block]; exact hn216_1) | (show (Addr.add _ _).block ≠ _; rw [add_block]; exact hn216_1) | exact hn216_1) (.bool ((rd_T62 l0_0 x5_1).f1))).trans hx216_0
                  replace hx216_1 := (cell_far (p := ⟨gb215, 1, none⟩) (by first | (rw [add_block]; exact hn216_1) | (show (Addr.add _ _).block ≠ _; rw [add_block]; exact hn216_1) | exact hn216_1) (.bool ((rd_T62 l0_0 x5_1).f1))).trans hx216_1
                  replace hx216_2 := (cell_far (p := ⟨gb215, 1, none⟩) (by first | (rw [add_block]; exact hn216_1) | (show (Addr.add _ _).block ≠ _; rw [add_block]; exact hn216_1) | exact hn216_1) (.bool ((rd_T62 l0_0 x5_1).f1))).trans hx216_2
                  replace hx216_0 := (cell_far (p := ⟨gb215, 2, none⟩) (by first | (rw [add_block]; exact hn216_2) | (show (Addr.add _ _).block ≠ _; rw [add_block]; exact hn216_2) | exact hn216_2) (.int .i64 ((rd_T62 l0_0 x5_1).f2))).trans hx216_0
                  replace hx216_1 := (cell_far (p := ⟨gb215, 2, none⟩) (by first | (rw [add_block]; exact hn216_2) | (show (Addr.add _ _).block ≠ _; rw [add_block]; exact hn216_2) | exact hn216_2) (.int .i64 ((rd_T62 l0_0 x5_1).f2))).trans hx216_1
                  replace hx216_2 := (cell_far (p := ⟨gb215, 2, none⟩) (by first | (rw [add_block]; exact hn216_2) | (show (Addr.add _ _).block ≠ _; rw [add_block]; exact hn216_2) | exact hn216_2) (.int .i64 ((rd_T62 l0_0 x5_1).f2))).trans hx216_2
                  (try have hy216_0 := fun (n_ : Nat) => (show (((((w11.drewN n_).setCell ⟨gb215, 0, none⟩ (.slice A214_0 ((rd_T62 l0_0 x5_1).f0).length c214_0)).setCell ⟨gb215, 1, none⟩ (.bool ((rd_T62 l0_0 x5_1).f1))).setCell ⟨gb215, 2, none⟩ (.int .i64 ((rd_T62 l0_0 x5_1).f2)))).cell? _ = some _ from hx216_0))
                  (try have hy216_1 := fun (n_ : Nat) => (show (((((w11.drewN n_).setCell ⟨gb215, 0, none⟩ (.slice A214_0 ((rd_T62 l0_0 x5_1).f0).length c214_0)).setCell ⟨gb215, 1, none⟩ (.bool ((rd_T62 l0_0 x5_1).f1))).setCell ⟨gb215, 2, none⟩ (.int .i64 ((rd_T62 l0_0 x5_1).f2)))).cell? _ = some _ from hx216_1))
                  (try have hy216_2 := fun (n_ : Nat) => (show (((((w11.drewN n_).setCell ⟨gb215, 0, none⟩ (.slice A214_0 ((rd_T62 l0_0 x5_1).f0).length c214_0)).setCell ⟨gb215, 1, none⟩ (.bool ((rd_T62 l0_0 x5_1).f1))).setCell ⟨gb215, 2, none⟩ (.int .i64 ((rd_T62 l0_0 x5_1).f2)))).cell? _ = some _ from hx216_2))
                  clear hn216_0
                  clear hn216_1
                  clear hn216_2
                  replace p216 := eq_true p216
                  replace q216 := eq_true q216
                  go_wp2
                  repeat (go_quiet (fail); try go_wp2)
                  go_meet
                  case rel => exact ⟨_, (true), (by first | rfl | (simp; done) | (simp [*]; done) | (simp [bne]; done)), H', ⟨by have := HK1.out; first | omega | exact Nat.le_refl _⟩, ⟨by (with_reducible repeat (first | refine blk_drewN ?_ _ | refine blk_drew ?_ | refine blk_alloc ?_ _)); refine blk_far ?_ NB213_215.out _; (with_reducible repeat (first | refine blk_drewN ?_ _ | refine blk_drew ?_ | refine blk_alloc ?_ _)); refine blk_far ?_ NB213_215.out _; (with_reducible repeat (first | refine blk_drewN ?_ _ | refine blk_drew ?_ | refine blk_alloc ?_ _)); refine blk_far ?_ NB213_215.out _; (with_reducible repeat (first | refine blk_drewN ?_ _ | refine blk_drew ?_ | refine blk_alloc ?_ _)); exact BK213.out⟩, ⟨by (with_reducible repeat (first | refine blk_drewN ?_ _ | refine blk_drew ?_ | refine blk_alloc ?_ _)); refine blk_put (cs := #[.slice A214_0 ((rd_T62 l0_0 x5_1).f0).length c214_0, .bool ((rd_T62 l0_0 x5_1).f1), .int .i64 0]) ?_ 2 _ rfl; (with_reducible repeat (first | refine blk_drewN ?_ _ | refine blk_drew ?_ | refine blk_alloc ?_ _)); refine blk_put (cs := #[.slice A214_0 ((rd_T62 l0_0 x5_1).f0).length c214_0, .bool false, .int .i64 0]) ?_ 1 _ rfl; (with_reducible repeat (first | refine blk_drewN ?_ _ | refine blk_drew ?_ | refine blk_alloc ?_ _)); refine blk_put (cs := #[.slice none 0 0, .bool false, .int .i64 0]) ?_ 0 _ rfl; (with_reducible repeat (first | refine blk_drewN ?_ _ | refine blk_drew ?_ | refine blk_alloc ?_ _)); exact BK215.out⟩, ⟨by repeat (first | (with_reducible first | exact HB.out | apply below_alloc | apply pw_below_drewN | apply below_drew1 | refine below_set ?_ GE213.out | refine below_set ?_ GE215.out) | exact HB.out)⟩⟩
                · rw [if_neg c14] at H
                  have c14b0 : (((rd_T62 l0_0 x5_1).f1) != ((rd_T66 l1 x5_1).f1)) = false := by simpa using c14
                  (try (have c14b1 : decide (((rd_T62 l0_0 x5_1).f1) = ((rd_T66 l1 x5_1).f1)) = true := by simpa using c14))
                  (try (have c14b2 : (((rd_T62 l0_0 x5_1).f1) == ((rd_T66 l1 x5_1).f1)) = true := by simpa using c14))
                  clear c14
                  (first | rw [c14b0] | (simp only [i64_w, i32_w]; rw [c14b0]) | skip)
                  by_cases c17 : ((rd_T62 l0_0 x5_1).f2) = ((rd_T66 l1 x5_1).f2)
                  · rw [if_pos c17] at H
                    have c17b0 : (((rd_T62 l0_0 x5_1).f2) == ((rd_T66 l1 x5_1).f2)) = true := beq_iff_eq.mpr c17
                    have c17b1 : (((rd_T62 l0_0 x5_1).f2) != ((rd_T66 l1 x5_1).f2)) = false := bne_eq_false_iff_eq.mpr c17
                    clear c17
                    have H' := Aside0.mk H
                    clear H
                    have hnb18 := NB215_213.out
                    have hnc18 := NB213_215.out
                    have hcz19_0 : w11.cell? ⟨gb215, 0, none⟩ = some (.slice none 0 0) := (blk_cell BK215.out 0).trans rfl
                    have hcz19_1 : w11.cell? ⟨gb215, 1, none⟩ = some (.bool false) := (blk_cell BK215.out 1).trans rfl
                    have hcz19_2 : w11.cell? ⟨gb215, 2, none⟩ = some (.int .i64 0) := (blk_cell BK215.out 2).trans rfl
                    have hfz19_0 := blk_frozen BK215.out 0
                    have hfz19_1 := blk_frozen BK215.out 1
                    have hfz19_2 := blk_frozen BK215.out 2
                    have p216 : 0 ≤ (x5_1 : Int) := of_decide_eq_true (by first | (with_reducible assumption) | assumption)
                    have q216 : x5_1 < (l1.length : Int) := of_decide_eq_true (by first | (with_reducible assumption) | assumption)
                    obtain ⟨ad216, A216_0, c216_0, e216, hx216_0, hx216_1, hx216_2, hl216_0, hi216_0⟩ := at_T66 HR1.out x5_1 p216 q216
                    cases e216
                    have hn216_0 : ad216.block ≠ gb215 := Nat.ne_of_lt (Nat.lt_of_lt_of_le (by have := World.block_lt_of_cell? _ _ hx216_0; first | rwa [add_block] at this | exact this) GW215.out)
                    have hn216_1 : ad216.block ≠ gb215 := Nat.ne_of_lt (Nat.lt_of_lt_of_le (by have := World.block_lt_of_cell? _ _ hx216_0; first | rwa [add_block] at this | exact this) GW215.out)
                    have hn216_2 : ad216.block ≠ gb215 := Nat.ne_of_lt (Nat.lt_of_lt_of_le (by have := World.block_lt_of_cell? _ _ hx216_0; first | rwa [add_block] at this | exact this) GW215.out)
                    replace hx216_0 := (HB.out.cell (World.block_lt_of_cell? w _ hx216_0)).trans hx216_0
                    replace hx216_1 := (HB.out.cell (World.block_lt_of_cell? w _ hx216_1)).trans hx216_1
                    replace hx216_2 := (HB.out.cell (World.block_lt_of_cell? w _ hx216_2)).trans hx216_2
                    have HR216_0 := Aside0.mk hi216_0
                    have HC216_0 := Aside0.mk hl216_0
                    clear hi216_0 hl216_0
                    replace hx216_0 := (cell_far (p := ⟨gb215, 0, none⟩) (by first | (rw [add_block]; exact hn216_0) | (show (Addr.add _ _).block ≠ _; rw [add_block]; exact hn216_0) | exact hn216_0) (.slice A214_0 ((rd_T62 l0_0 x5_1).f0).length c214_0)).trans hx216_0
                    replace hx216_1 := (cell_far (p := ⟨gb215, 0, none⟩) (by first | (rw [add_block]; exact hn216_0) | (show (Addr.add _ _).block ≠ _; rw [add_block]; exact hn216_0) | exact hn216_0) (.slice A214_0 ((rd_T62 l0_0 x5_1).f0).length c214_0)).trans hx216_1
                    replace hx216_2 := (cell_far (p := ⟨gb215, 0, none⟩) (by first | (rw [add_block]; exact hn216_0) | (show (Addr.add _ _).block ≠ _; rw [add_block]; exact hn216_0) | exact hn216_0) (.slice A214_0 ((rd_T62 l0_0 x5_1).f0).length c214_0)).trans hx216_2
                    replace hx216_0 := (cell_far (p := ⟨gb215, 1, none⟩) (by first | (rw [add_block]; exact hn216_1) | (show (Addr.add _ _).block ≠ _; rw [add_block]; exact hn216_1) | exact hn216_1) (.bool ((rd_T62 l0_0 x5_1).f1))).trans hx216_0
                    replace hx216_1 := (cell_far (p := ⟨gb215, 1, none⟩) (by first | (rw [add_block]; exact hn216_1) | (show (Addr.add _ _).block ≠ _; rw [add_block]; exact hn216_1) | exact hn216_1) (.bool ((rd_T62 l0_0 x5_1).f1))).trans hx216_1
                    replace hx216_2 := (cell_far (p := ⟨gb215, 1, none⟩) (by first | (rw [add_block]; exact hn216_1) | (show (Addr.add _ _).block ≠ _; rw [add_block]; exact hn216_1) | exact hn216_1) (.bool ((rd_T62 l0_0 x5_1).f1))).trans hx216_2
                    replace hx216_0 := (cell_far (p := ⟨gb215, 2, none⟩) (by first | (rw [add_block]; exact hn216_2) | (show (Addr.add _ _).block ≠ _; rw [add_block]; exact hn216_2) | exact hn216_2) (.int .i64 ((rd_T62 l0_0 x5_1).f2))).trans hx216_0
                    replace hx216_1 := (cell_far (p := ⟨gb215, 2, none⟩) (by first | (rw [add_block]; exact hn216_2) | (show (Addr.add _ _).block ≠ _; rw [add_block]; exact hn216_2) | exact hn216_2) (.int .i64 ((rd_T62 l0_0 x5_1).f2))).trans hx216_1
                    replace hx216_2 := (cell_far (p := ⟨gb215, 2, none⟩) (by first | (rw [add_block]; exact hn216_2) | (show (Addr.add _ _).block ≠ _; rw [add_block]; exact hn216_2) | exact hn216_2) (.int .i64 ((rd_T62 l0_0 x5_1).f2))).trans hx216_2
                    (try have hy216_0 := fun (n_ : Nat) => (show (((((w11.drewN n_).setCell ⟨gb215, 0, none⟩ (.slice A214_0 ((rd_T62 l0_0 x5_1).f0).length c214_0)).setCell ⟨gb215, 1, none⟩ (.bool ((rd_T62 l0_0 x5_1).f1))).setCell ⟨gb215, 2, none⟩ (.int .i64 ((rd_T62 l0_0 x5_1).f2)))).cell? _ = some _ from hx216_0))
                    (try have hy216_1 := fun (n_ : Nat) => (show (((((w11.drewN n_).setCell ⟨gb215, 0, none⟩ (.slice A214_0 ((rd_T62 l0_0 x5_1).f0).length c214_0)).setCell ⟨gb215, 1, none⟩ (.bool ((rd_T62 l0_0 x5_1).f1))).setCell ⟨gb215, 2, none⟩ (.int .i64 ((rd_T62 l0_0 x5_1).f2)))).cell? _ = some _ from hx216_1))
                    (try have hy216_2 := fun (n_ : Nat) => (show (((((w11.drewN n_).setCell ⟨gb215, 0, none⟩ (.slice A214_0 ((rd_T62 l0_0 x5_1).f0).length c214_0)).setCell ⟨gb215, 1, none⟩ (.bool ((rd_T62 l0_0 x5_1).f1))).setCell ⟨gb215, 2, none⟩ (.int .i64 ((rd_T62 l0_0 x5_1).f2)))).cell? _ = some _ from hx216_2))
                    clear hn216_0
                    clear hn216_1
                    clear hn216_2
                    replace p216 := eq_true p216
                    replace q216 := eq_true q216
                    have p217 : 0 ≤ (x5_1 : Int) := of_decide_eq_true (by first | (with_reducible assumption) | assumption)
                    have q217 : x5_1 < (l1.length : Int) := of_decide_eq_true (by first | (with_reducible assumption) | assumption)
                    obtain ⟨ad217, A217_0, c217_0, e217, hx217_0, hx217_1, hx217_2, hl217_0, hi217_0⟩ := at_T66 HR1.out x5_1 p217 q217
                    obtain rfl : ad216 = ad217 := (by injection e217)
                    have hn217_0 : ad216.block ≠ gb215 := Nat.ne_of_lt (Nat.lt_of_lt_of_le (by have := World.block_lt_of_cell? _ _ hx217_0; first | rwa [add_block] at this | exact this) GW215.out)
                    have hn217_1 : ad216.block ≠ gb215 := Nat.ne_of_lt (Nat.lt_of_lt_of_le (by have := World.block_lt_of_cell? _ _ hx217_0; first | rwa [add_block] at this | exact this) GW215.out)
                    have hn217_2 : ad216.block ≠ gb215 := Nat.ne_of_lt (Nat.lt_of_lt_of_le (by have := World.block_lt_of_cell? _ _ hx217_0; first | rwa [add_block] at this | exact this) GW215.out)
                    replace hx217_0 := (HB.out.cell (World.block_lt_of_cell? w _ hx217_0)).trans hx217_0
                    replace hx217_1 := (HB.out.cell (World.block_lt_of_cell? w _ hx217_1)).trans hx217_1
                    replace hx217_2 := (HB.out.cell (World.block_lt_of_cell? w _ hx217_2)).trans hx217_2
                    have HR217_0 := Aside0.mk hi217_0
                    have HC217_0 := Aside0.mk hl217_0
                    clear hi217_0 hl217_0
                    replace hx217_0 := (cell_far (p := ⟨gb215, 0, none⟩) (by first | (rw [add_block]; exact hn217_0) | (show (Addr.add _ _).block ≠ _; rw [add_block]; exact hn217_0) | exact hn217_0) (.slice A214_0 ((rd_T62 l0_0 x5_1).f0).length c214_0)).trans hx217_0
                    replace hx217_1 := (cell_far (p := ⟨gb215, 0, none⟩) (by first | (rw [add_block]; exact hn217_0) | (show (Addr.add _ _).block ≠ _; rw [add_block]; exact hn217_0) | exact hn217_0) (.slice A214_0 ((rd_T62 l0_0 x5_1).f0).length c214_0)).trans hx217_1
                    replace hx217_2 := (cell_far (p := ⟨gb215, 0, none⟩) (by first | (rw [add_block]; exact hn217_0) | (show (Addr.add _ _).block ≠ _; rw [add_block]; exact hn217_0) | exact hn217_0) (.slice A214_0 ((rd_T62 l0_0 x5_1).f0).length c214_0)).trans hx217_2
                    replace hx217_0 := (cell_far (p := ⟨gb215, 1, none⟩) (by first | (rw [add_block]; exact hn217_1) | (show (Addr.add _ _).block ≠ _; rw [add_block]; exact hn217_1) | exact hn217_1) (.bool ((rd_T62 l0_0 x5_1).f1))).trans hx217_0
                    replace hx217_1 := (cell_far (p := ⟨gb215, 1, none⟩) (by first | (rw [add_block]; exact hn217_1) | (show (Addr.add _ _).block ≠ _; rw [add_block]; exact hn217_1) | exact hn217_1) (.bool ((rd_T62 l0_0 x5_1).f1))).trans hx217_1
                    replace hx217_2 := (cell_far (p := ⟨gb215, 1, none⟩) (by first | (rw [add_block]; exact hn217_1) | (show (Addr.add _ _).block ≠ _; rw [add_block]; exact hn217_1) | exact hn217_1) (.bool ((rd_T62 l0_0 x5_1).f1))).trans hx217_2
                    replace hx217_0 := (cell_far (p := ⟨gb215, 2, none⟩) (by first | (rw [add_block]; exact hn217_2) | (show (Addr.add _ _).block ≠ _; rw [add_block]; exact hn217_2) | exact hn217_2) (.int .i64 ((rd_T62 l0_0 x5_1).f2))).trans hx217_0
                    replace hx217_1 := (cell_far (p := ⟨gb215, 2, none⟩) (by first | (rw [add_block]; exact hn217_2) | (show (Addr.add _ _).block ≠ _; rw [add_block]; exact hn217_2) | exact hn217_2) (.int .i64 ((rd_T62 l0_0 x5_1).f2))).trans hx217_1
                    replace hx217_2 := (cell_far (p := ⟨gb215, 2, none⟩) (by first | (rw [add_block]; exact hn217_2) | (show (Addr.add _ _).block ≠ _; rw [add_block]; exact hn217_2) | exact hn217_2) (.int .i64 ((rd_T62 l0_0 x5_1).f2))).trans hx217_2
                    (try have hy217_0 := fun (n_ : Nat) => (show (((((w11.drewN n_).setCell ⟨gb215, 0, none⟩ (.slice A214_0 ((rd_T62 l0_0 x5_1).f0).length c214_0)).setCell ⟨gb215, 1, none⟩ (.bool ((rd_T62 l0_0 x5_1).f1))).setCell ⟨gb215, 2, none⟩ (.int .i64 ((rd_T62 l0_0 x5_1).f2)))).cell? _ = some _ from hx217_0))
                    (try have hy217_1 := fun (n_ : Nat) => (show (((((w11.drewN n_).setCell ⟨gb215, 0, none⟩ (.slice A214_0 ((rd_T62 l0_0 x5_1).f0).length c214_0)).setCell ⟨gb215, 1, none⟩ (.bool ((rd_T62 l0_0 x5_1).f1))).setCell ⟨gb215, 2, none⟩ (.int .i64 ((rd_T62 l0_0 x5_1).f2)))).cell? _ = some _ from hx217_1))
                    (try have hy217_2 := fun (n_ : Nat) => (show (((((w11.drewN n_).setCell ⟨gb215, 0, none⟩ (.slice A214_0 ((rd_T62 l0_0 x5_1).f0).length c214_0)).setCell ⟨gb215, 1, none⟩ (.bool ((rd_T62 l0_0 x5_1).f1))).setCell ⟨gb215, 2, none⟩ (.int .i64 ((rd_T62 l0_0 x5_1).f2)))).cell? _ = some _ from hx217_2))
                    clear hn217_0
                    clear hn217_1
                    clear hn217_2
                    replace p217 := eq_true p217
                    replace q217 := eq_true q217
                    have p218 : 0 ≤ (x5_1 : Int) := of_decide_eq_true (by first | (with_reducible assumption) | assumption)
                    have q218 : x5_1 < (l1.length : Int) := of_decide_eq_true (by first | (with_reducible assumption) | assumption)
                    obtain ⟨ad218, A218_0, c218_0, e218, hx218_0, hx218_1, hx218_2, hl218_0, hi218_0⟩ := at_T66 HR1.out x5_1 p218 q218
                    obtain rfl : ad216 = ad218 := (by injection e218)
                    have hn218_0 : ad216.block ≠ gb215 := Nat.ne_of_lt (Nat.lt_of_lt_of_le (by have := World.block_lt_of_cell? _ _ hx218_0; first | rwa [add_block] at this | exact this) GW215.out)
                    have hn218_1 : ad216.block ≠ gb215 := Nat.ne_of_lt (Nat.lt_of_lt_of_le (by have := World.block_lt_of_cell? _ _ hx218_0; first | rwa [add_block] at this | exact this) GW215.out)
                    have hn218_2 : ad216.block ≠ gb215 := Nat.ne_of_lt (Nat.lt_of_lt_of_le (by have := World.block_lt_of_cell? _ _ hx218_0; first | rwa [add_block] at this | exact this) GW215.out)
                    replace hx218_0 := (HB.out.cell (World.block_lt_of_cell? w _ hx218_0)).trans hx218_0
                    replace hx218_1 := (HB.out.cell (World.block_lt_of_cell? w _ hx218_1)).trans hx218_1
                    replace hx218_2 := (HB.out.cell (World.block_lt_of_cell? w _ hx218_2)).trans hx218_2
                    have HR218_0 := Aside0.mk hi218_0
                    have HC218_0 := Aside0.mk hl218_0
                    clear hi218_0 hl218_0
                    replace hx218_0 := (cell_far (p := ⟨gb215, 0, none⟩) (by first | (rw [add_block]; exact hn218_0) | (show (Addr.add _ _).block ≠ _; rw [add_block]; exact hn218_0) | exact hn218_0) (.slice A214_0 ((rd_T62 l0_0 x5_1).f0).length c214_0)).trans hx218_0
                    replace hx218_1 := (cell_far (p := ⟨gb215, 0, none⟩) (by first | (rw [add_block]; exact hn218_0) | (show (Addr.add _ _).block ≠ _; rw [add_block]; exact hn218_0) | exact hn218_0) (.slice A214_0 ((rd_T62 l0_0 x5_1).f0).length c214_0)).trans hx218_1
                    replace hx218_2 := (cell_far (p := ⟨gb215, 0, none⟩) (by first | (rw [add_block]; exact hn218_0) | (show (Addr.add _ _).block ≠ _; rw [add_block]; exact hn218_0) | exact hn218_0) (.slice A214_0 ((rd_T62 l0_0 x5_1).f0).length c214_0)).trans hx218_2
                    replace hx218_0 := (cell_far (p := ⟨gb215, 1, none⟩) (by first | (rw [add_block]; exact hn218_1) | (show (Addr.add _ _).block ≠ _; rw [add_block]; exact hn218_1) | exact hn218_1) (.bool ((rd_T62 l0_0 x5_1).f1))).trans hx218_0
                    replace hx218_1 := (cell_far (p := ⟨gb215, 1, none⟩) (by first | (rw [add_block]; exact hn218_1) | (show (Addr.add _ _).block ≠ _; rw [add_block]; exact hn218_1) | exact hn218_1) (.bool ((rd_T62 l0_0 x5_1).f1))).trans hx218_1
                    replace hx218_2 := (cell_far (p := ⟨gb215, 1, none⟩) (by first | (rw [add_block]; exact hn218_1) | (show (Addr.add _ _).block ≠ _; rw [add_block]; exact hn218_1) | exact hn218_1) (.bool ((rd_T62 l0_0 x5_1).f1))).trans hx218_2
                    replace hx218_0 := (cell_far (p := ⟨gb215, 2, none⟩) (by first | (rw [add_block]; exact hn218_2) | (show (Addr.add _ _).block ≠ _; rw [add_block]; exact hn218_2) | exact hn218_2) (.int .i64 ((rd_T62 l0_0 x5_1).f2))).trans hx218_0
                    replace hx218_1 := (cell_far (p := ⟨gb215, 2, none⟩) (by first | (rw [add_block]; exact hn218_2) | (show (Addr.add _ _).block ≠ _; rw [add_block]; exact hn218_2) | exact hn218_2) (.int .i64 ((rd_T62 l0_0 x5_1).f2))).trans hx218_1
                    replace hx218_2 := (cell_far (p := ⟨gb215, 2, none⟩) (by first | (rw [add_block]; exact hn218_2) | (show (Addr.add _ _).block ≠ _; rw [add_block]; exact hn218_2) | exact hn218_2) (.int .i64 ((rd_T62 l0_0 x5_1).f2))).trans hx218_2
                    (try have hy218_0 := fun (n_ : Nat) => (show (((((w11.drewN n_).setCell ⟨gb215, 0, none⟩ (.slice A214_0 ((rd_T62 l0_0 x5_1).f0).length c214_0)).setCell ⟨gb215, 1, none⟩ (.bool ((rd_T62 l0_0 x5_1).f1))).setCell ⟨gb215, 2, none⟩ (.int .i64 ((rd_T62 l0_0 x5_1).f2)))).cell? _ = some _ from hx218_0))
                    (try have hy218_1 := fun (n_ : Nat) => (show (((((w11.drewN n_).setCell ⟨gb215, 0, none⟩ (.slice A214_0 ((rd_T62 l0_0 x5_1).f0).length c214_0)).setCell ⟨gb215, 1, none⟩ (.bool ((rd_T62 l0_0 x5_1).f1))).setCell ⟨gb215, 2, none⟩ (.int .i64 ((rd_T62 l0_0 x5_1).f2)))).cell? _ = some _ from hx218_1))
                    (try have hy218_2 := fun (n_ : Nat) => (show (((((w11.drewN n_).setCell ⟨gb215, 0, none⟩ (.slice A214_0 ((rd_T62 l0_0 x5_1).f0).length c214_0)).setCell ⟨gb215, 1, none⟩ (.bool ((rd_T62 l0_0 x5_1).f1))).setCell ⟨gb215, 2, none⟩ (.int .i64 ((rd_T62 l0_0 x5_1).f2)))).cell? _ = some _ from hx218_2))
                    clear hn218_0
                    clear hn218_1
                    clear hn218_2
                    replace p218 := eq_true p218
                    replace q218 := eq_true q218
                    go_wp2
                    repeat (go_quiet (fail); try go_wp2)
                    go_meet
                    case rel => exact ⟨_, (((((rd_T62 l0_0 x5_1).f0).length : Int) != (((rd_T66 l1 x5_1).f0).length : Int))), (by first | rfl | (simp; done) | (simp [*]; done) | (simp [bne]; done)), H', ⟨by have := HK1.out; first | omega | exact Nat.le_refl _⟩, ⟨by (with_reducible repeat (first | refine blk_drewN ?_ _ | refine blk_drew ?_ | refine blk_alloc ?_ _)); refine blk_far ?_ NB213_215.out _; (with_reducible repeat (first | refine blk_drewN ?_ _ | refine blk_drew ?_ | refine blk_alloc ?_ _)); refine blk_far ?_ NB213_215.out _; (with_reducible repeat (first | refine blk_drewN ?_ _ | refine blk_drew ?_ | refine blk_alloc ?_ _)); refine blk_far ?_ NB213_215.out _; (with_reducible repeat (first | refine blk_drewN ?_ _ | refine blk_drew ?_ | refine blk_alloc ?_ _)); exact BK213.out⟩, ⟨by (with_reducible repeat (first | refine blk_drewN ?_ _ | refine blk_drew ?_ | refine blk_alloc ?_ _)); refine blk_put (cs := #[.slice A214_0 ((rd_T62 l0_0 x5_1).f0).length c214_0, .bool ((rd_T62 l0_0 x5_1).f1), .int .i64 0]) ?_ 2 _ rfl; (with_reducible repeat (first | refine blk_drewN ?_ _ | refine blk_drew ?_ | refine blk_alloc ?_ _)); refine blk_put (cs := #[.slice A214_0 ((rd_T62 l0_0 x5_1).f0).length c214_0, .bool false, .int .i64 0]) ?_ 1 _ rfl; (with_reducible repeat (first | refine blk_drewN ?_ _ | refine blk_drew ?_ | refine blk_alloc ?_ _)); refine blk_put (cs := #[.slice none 0 0, .bool false, .int .i64 0]) ?_ 0 _ rfl; (with_reducible repeat (first | refine blk_drewN ?_ _ | refine blk_drew ?_ | refine blk_alloc ?_ _)); exact BK215.out⟩, ⟨by repeat (first | (with_reducible first | exact HB.out | apply below_alloc | apply pw_below_drewN | apply below_drew1 | refine below_set ?_ GE213.out | refine below_set ?_ GE215.out) | exact HB.out)⟩⟩
                  · rw [if_neg c17] at H
                    have c17b0 : (((rd_T62 l0_0 x5_1).f2) == ((rd_T66 l1 x5_1).f2)) = false := beq_eq_false_iff_ne.mpr c17
                    have c17b1 : (((rd_T62 l0_0 x5_1).f2) != ((rd_T66 l1 x5_1).f2)) = true := bne_iff_ne.mpr c17
                    have H' := Aside0.mk H
                    clear H
                    have hnb20 := NB215_213.out
                    have hnc20 := NB213_215.out
                    have hcz21_0 : w11.cell? ⟨gb215, 0, none⟩ = some (.slice none 0 0) := (blk_cell BK215.out 0).trans rfl
                    have hcz21_1 : w11.cell? ⟨gb215, 1, none⟩ = some (.bool false) := (blk_cell BK215.out 1).trans rfl
                    have hcz21_2 : w11.cell? ⟨gb215, 2, none⟩ = some (.int .i64 0) := (blk_cell BK215.out 2).trans rfl
                    have hfz21_0 := blk_frozen BK215.out 0
                    have hfz21_1 := blk_frozen BK215.out 1
                    have hfz21_2 := blk_frozen BK215.out 2
                    have p216 : 0 ≤ (x5_1 : Int) := of_decide_eq_true (by first | (with_reducible assumption) | assumption)
                    have q216 : x5_1 < (l1.length : Int) := of_decide_eq_true (by first | (with_reducible assumption) | assumption)
                    obtain ⟨ad216, A216_0, c216_0, e216, hx216_0, hx216_1, hx216_2, hl216_0, hi216_0⟩ := at_T66 HR1.out x5_1 p216 q216
                    cases e216
                    have hn216_0 : ad216.block ≠ gb215 := Nat.ne_of_lt (Nat.lt_of_lt_of_le (by have := World.block_lt_of_cell? _ _ hx216_0; first | rwa [add_block] at this | exact this) GW215.out)
                    have hn216_1 : ad216.block ≠ gb215 := Nat.ne_of_lt (Nat.lt_of_lt_of_le (by have := World.block_lt_of_cell? _ _ hx216_0; first | rwa [add_block] at this | exact this) GW215.out)
                    have hn216_2 : ad216.block ≠ gb215 := Nat.ne_of_lt (Nat.lt_of_lt_of_le (by have := World.block_lt_of_cell? _ _ hx216_0; first | rwa [add_block] at this | exact this) GW215.out)
                    replace hx216_0 := (HB.out.cell (World.block_lt_of_cell? w _ hx216_0)).trans hx216_0
                    replace hx216_1 := (HB.out.cell (World.block_lt_of_cell? w _ hx216_1)).trans hx216_1
                    replace hx216_2 := (HB.out.cell (World.block_lt_of_cell? w _ hx216_2)).trans hx216_2
                    have HR216_0 := Aside0.mk hi216_0
                    have HC216_0 := Aside0.mk hl216_0
                    clear hi216_0 hl216_0
                    replace hx216_0 := (cell_far (p := ⟨gb215, 0, none⟩) (by first | (rw [add_block]; exact hn216_0) | (show (Addr.add _ _).block ≠ _; rw [add_block]; exact hn216_0) | exact hn216_0) (.slice A214_0 ((rd_T62 l0_0 x5_1).f0).length c214_0)).trans hx216_0
                    replace hx216_1 := (cell_far (p := ⟨gb215, 0, none⟩) (by first | (rw [add_block]; exact hn216_0) | (show (Addr.add _ _).block ≠ _; rw [add_block]; exact hn216_0) | exact hn216_0) (.slice A214_0 ((rd_T62 l0_0 x5_1).f0).length c214_0)).trans hx216_1
                    replace hx216_2 := (cell_far (p := ⟨gb215, 0, none⟩) (by first | (rw [add_block]; exact hn216_0) | (show (Addr.add _ _).block ≠ _; rw [add_block]; exact hn216_0) | exact hn216_0) (.slice A214_0 ((rd_T62 l0_0 x5_1).f0).length c214_0)).trans hx216_2
                    replace hx216_0 := (cell_far (p := ⟨gb215, 1, none⟩) (by first | (rw [add_block]; exact hn216_1) | (show (Addr.add _ _).block ≠ _; rw [add_block]; exact hn216_1) | exact hn216_1) (.bool ((rd_T62 l0_0 x5_1).f1))).trans hx216_0
                    replace hx216_1 := (cell_far (p := ⟨gb215, 1, none⟩) (by first | (rw [add_block]; exact hn216_1) | (show (Addr.add _ _).block ≠ _; rw [add_block]; exact hn216_1) | exact hn216_1) (.bool ((rd_T62 l0_0 x5_1).f1))).trans hx216_1
                    replace hx216_2 := (cell_far (p := ⟨gb215, 1, none⟩) (by first | (rw [add_block]; exact hn216_1) | (show (Addr.add _ _).block ≠ _; rw [add_block]; exact hn216_1) | exact hn216_1) (.bool ((rd_T62 l0_0 x5_1).f1))).trans hx216_2
                    replace hx216_0 := (cell_far (p := ⟨gb215, 2, none⟩) (by first | (rw [add_block]; exact hn216_2) | (show (Addr.add _ _).block ≠ _; rw [add_block]; exact hn216_2) | exact hn216_2) (.int .i64 ((rd_T62 l0_0 x5_1).f2))).trans hx216_0
                    replace hx216_1 := (cell_far (p := ⟨gb215, 2, none⟩) (by first | (rw [add_block]; exact hn216_2) | (show (Addr.add _ _).block ≠ _; rw [add_block]; exact hn216_2) | exact hn216_2) (.int .i64 ((rd_T62 l0_0 x5_1).f2))).trans hx216_1
                    replace hx216_2 := (cell_far (p := ⟨gb215, 2, none⟩) (by first | (rw [add_block]; exact hn216_2) | (show (Addr.add _ _).block ≠ _; rw [add_block]; exact hn216_2) | exact hn216_2) (.int .i64 ((rd_T62 l0_0 x5_1).f2))).trans hx216_2
                    (try have hy216_0 := fun (n_ : Nat) => (show (((((w11.drewN n_).setCell ⟨gb215, 0, none⟩ (.slice A214_0 ((rd_T62 l0_0 x5_1).f0).length c214_0)).setCell ⟨gb215, 1, none⟩ (.bool ((rd_T62 l0_0 x5_1).f1))).setCell ⟨gb215, 2, none⟩ (.int .i64 ((rd_T62 l0_0 x5_1).f2)))).cell? _ = some _ from hx216_0))
                    (try have hy216_1 := fun (n_ : Nat) => (show (((((w11.drewN n_).setCell ⟨gb215, 0, none⟩ (.slice A214_0 ((rd_T62 l0_0 x5_1).f0).length c214_0)).setCell ⟨gb215, 1, none⟩ (.bool ((rd_T62 l0_0 x5_1).f1))).setCell ⟨gb215, 2, none⟩ (.int .i64 ((rd_T62 l0_0 x5_1).f2)))).cell? _ = some _ from hx216_1))
                    (try have hy216_2 := fun (n_ : Nat) => (show (((((w11.drewN n_).setCell ⟨gb215, 0, none⟩ (.slice A214_0 ((rd_T62 l0_0 x5_1).f0).length c214_0)).setCell ⟨gb215, 1, none⟩ (.bool ((rd_T62 l0_0 x5_1).f1))).setCell ⟨gb215, 2, none⟩ (.int .i64 ((rd_T62 l0_0 x5_1).f2)))).cell? _ = some _ from hx216_2))
                    clear hn216_0
                    clear hn216_1
                    clear hn216_2
                    replace p216 := eq_true p216
                    replace q216 := eq_true q216
                    have p217 : 0 ≤ (x5_1 : Int) := of_decide_eq_true (by first | (with_reducible assumption) | assumption)
                    have q217 : x5_1 < (l1.length : Int) := of_decide_eq_true (by first | (with_reducible assumption) | assumption)
                    obtain ⟨ad217, A217_0, c217_0, e217, hx217_0, hx217_1, hx217_2, hl217_0, hi217_0⟩ := at_T66 HR1.out x5_1 p217 q217
                    obtain rfl : ad216 = ad217 := (by injection e217)
                    have hn217_0 : ad216.block ≠ gb215 := Nat.ne_of_lt (Nat.lt_of_lt_of_le (by have := World.block_lt_of_cell? _ _ hx217_0; first | rwa [add_block] at this | exact this) GW215.out)
                    have hn217_1 : ad216.block ≠ gb215 := Nat.ne_of_lt (Nat.lt_of_lt_of_le (by have := World.block_lt_of_cell? _ _ hx217_0; first | rwa [add_block] at this | exact this) GW215.out)
                    have hn217_2 : ad216.block ≠ gb215 := Nat.ne_of_lt (Nat.lt_of_lt_of_le (by have := World.block_lt_of_cell? _ _ hx217_0; first | rwa [add_block] at this | exact this) GW215.out)
                    replace hx217_0 := (HB.out.cell (World.block_lt_of_cell? w _ hx217_0)).trans hx217_0
                    replace hx217_1 := (HB.out.cell (World.block_lt_of_cell? w _ hx217_1)).trans hx217_1
                    replace hx217_2 := (HB.out.cell (World.block_lt_of_cell? w _ hx217_2)).trans hx217_2
                    have HR217_0 := Aside0.mk hi217_0
                    have HC217_0 := Aside0.mk hl217_0
                    clear hi217_0 hl217_0
                    replace hx217_0 := (cell_far (p := ⟨gb215, 0, none⟩) (by first | (rw [add_block]; exact hn217_0) | (show (Addr.add _ _).block ≠ _; rw [add_block]; exact hn217_0) | exact hn217_0) (.slice A214_0 ((rd_T62 l0_0 x5_1).f0).length c214_0)).trans hx217_0
                    replace hx217_1 := (cell_far (p := ⟨gb215, 0, none⟩) (by first | (rw [add_block]; exact hn217_0) | (show (Addr.add _ _).block ≠ _; rw [add_block]; exact hn217_0) | exact hn217_0) (.slice A214_0 ((rd_T62 l0_0 x5_1).f0).length c214_0)).trans hx217_1
                    replace hx217_2 := (cell_far (p := ⟨gb215, 0, none⟩) (by first | (rw [add_block]; exact hn217_0) | (show (Addr.add _ _).block ≠ _; rw [add_block]; exact hn217_0) | exact hn217_0) (.slice A214_0 ((rd_T62 l0_0 x5_1).f0).length c214_0)).trans hx217_2
                    replace hx217_0 := (cell_far (p := ⟨gb215, 1, none⟩) (by first | (rw [add_block]; exact hn217_1) | (show (Addr.add _ _).block ≠ _; rw [add_block]; exact hn217_1) | exact hn217_1) (.bool ((rd_T62 l0_0 x5_1).f1))).trans hx217_0
                    replace hx217_1 := (cell_far (p := ⟨gb215, 1, none⟩) (by first | (rw [add_block]; exact hn217_1) | (show (Addr.add _ _).block ≠ _; rw [add_block]; exact hn217_1) | exact hn217_1) (.bool ((rd_T62 l0_0 x5_1).f1))).trans hx217_1
                    replace hx217_2 := (cell_far (p := ⟨gb215, 1, none⟩) (by first | (rw [add_block]; exact hn217_1) | (show (Addr.add _ _).block ≠ _; rw [add_block]; exact hn217_1) | exact hn217_1) (.bool ((rd_T62 l0_0 x5_1).f1))).trans hx217_2
                    replace hx217_0 := (cell_far (p := ⟨gb215, 2, none⟩) (by first | (rw [add_block]; exact hn217_2) | (show (Addr.add _ _).block ≠ _; rw [add_block]; exact hn217_2) | exact hn217_2) (.int .i64 ((rd_T62 l0_0 x5_1).f2))).trans hx217_0
                    replace hx217_1 := (cell_far (p := ⟨gb215, 2, none⟩) (by first | (rw [add_block]; exact hn217_2) | (show (Addr.add _ _).block ≠ _; rw [add_block]; exact hn217_2) | exact hn217_2) (.int .i64 ((rd_T62 l0_0 x5_1).f2))).trans hx217_1
                    replace hx217_2 := (cell_far (p := ⟨gb215, 2, none⟩) (by first | (rw [add_block]; exact hn217_2) | (show (Addr.add _ _).block ≠ _; rw [add_block]; exact hn217_2) | exact hn217_2) (.int .i64 ((rd_T62 l0_0 x5_1).f2))).trans hx217_2
                    (try have hy217_0 := fun (n_ : Nat) => (show (((((w11.drewN n_).setCell ⟨gb215, 0, none⟩ (.slice A214_0 ((rd_T62 l0_0 x5_1).f0).length c214_0)).setCell ⟨gb215, 1, none⟩ (.bool ((rd_T62 l0_0 x5_1).f1))).setCell ⟨gb215, 2, none⟩ (.int .i64 ((rd_T62 l0_0 x5_1).f2)))).cell? _ = some _ from hx217_0))
                    (try have hy217_1 := fun (n_ : Nat) => (show (((((w11.drewN n_).setCell ⟨gb215, 0, none⟩ (.slice A214_0 ((rd_T62 l0_0 x5_1).f0).length c214_0)).setCell ⟨gb215, 1, none⟩ (.bool ((rd_T62 l0_0 x5_1).f1))).setCell ⟨gb215, 2, none⟩ (.int .i64 ((rd_T62 l0_0 x5_1).f2)))).cell? _ = some _ from hx217_1))
                    (try have hy217_2 := fun (n_ : Nat) => (show (((((w11.drewN n_).setCell ⟨gb215, 0, none⟩ (.slice A214_0 ((rd_T62 l0_0 x5_1).f0).length c214_0)).setCell ⟨gb215, 1, none⟩ (.bool ((rd_T62 l0_0 x5_1).f1))).setCell ⟨gb215, 2, none⟩ (.int .i64 ((rd_T62 l0_0 x5_1).f2)))).cell? _ = some _ from hx217_2))
                    clear hn217_0
                    clear hn217_1
                    clear hn217_2
                    replace p217 := eq_true p217
                    replace q217 := eq_true q217
                    go_wp2
                    repeat (go_quiet (fail); try go_wp2)
                    go_meet
                    case rel => exact ⟨_, (true), (by first | rfl | (simp; done) | (simp [*]; done) | (simp [bne]; done)), H', ⟨by have := HK1.out; first | omega | exact Nat.le_refl _⟩, ⟨by (with_reducible repeat (first | refine blk_drewN ?_ _ | refine blk_drew ?_ | refine blk_alloc ?_ _)); refine blk_far ?_ NB213_215.out _; (with_reducible repeat (first | refine blk_drewN ?_ _ | refine blk_drew ?_ | refine blk_alloc ?_ _)); refine blk_far ?_ NB213_215.out _; (with_reducible repeat (first | refine blk_drewN ?_ _ | refine blk_drew ?_ | refine blk_alloc ?_ _)); refine blk_far ?_ NB213_215.out _; (with_reducible repeat (first | refine blk_drewN ?_ _ | refine blk_drew ?_ | refine blk_alloc ?_ _)); exact BK213.out⟩, ⟨by (with_reducible repeat (first | refine blk_drewN ?_ _ | refine blk_drew ?_ | refine blk_alloc ?_ _)); refine blk_put (cs := #[.slice A214_0 ((rd_T62 l0_0 x5_1).f0).length c214_0, .bool ((rd_T62 l0_0 x5_1).f1), .int .i64 0]) ?_ 2 _ rfl; (with_reducible repeat (first | refine blk_drewN ?_ _ | refine blk_drew ?_ | refine blk_alloc ?_ _)); refine blk_put (cs := #[.slice A214_0 ((rd_T62 l0_0 x5_1).f0).length c214_0, .bool false, .int .i64 0]) ?_ 1 _ rfl; (with_reducible repeat (first | refine blk_drewN ?_ _ | refine blk_drew ?_ | refine blk_alloc ?_ _)); refine blk_put (cs := #[.slice none 0 0, .bool false, .int .i64 0]) ?_ 0 _ rfl; (with_reducible repeat (first | refine blk_drewN ?_ _ | refine blk_drew ?_ | refine blk_alloc ?_ _)); exact BK215.out⟩, ⟨by repeat (first | (with_reducible first | exact HB.out | apply below_alloc | apply pw_below_drewN | apply below_drew1 | refine below_set ?_ GE213.out | refine below_set ?_ GE215.out) | exact HB.out)⟩⟩
              case rest =>
                clear HC9
                try clear c1
                try clear c2
                try clear p2
                try clear q2
                try clear hx2
                try clear c3
                try clear c3b0
                try clear c3b1
                try clear c3b2
                try clear c6
                try clear c6b0
                try clear c7
                try clear c7b0
                try clear c8
                try clear c8b0
                try clear c12
                try clear c14
                try clear c14b0
                try clear c14b1
                try clear c14b2
                try clear c15
                try clear c17
                try clear c17b0
                try clear c17b1
                try clear c18
                try clear c20
                try clear c21
                try clear p21
                try clear q21
                try clear hx21
                try clear hcz10_0
                try clear hcz13_0
                try clear hcz13_1
                try clear hcz13_2
                try clear hcz16_0
                try clear hcz16_1
                try clear hcz16_2
                try clear hcz19_0
                try clear hcz19_1
                try clear hcz19_2
                try clear hcz21_0
                try clear hcz21_1
                try clear hcz21_2
                try clear hcz5_0
                try clear hfz10_0
                try clear hfz13_0
                try clear hfz13_1
                try clear hfz13_2
                try clear hfz16_0
                try clear hfz16_1
                try clear hfz16_2
                try clear hfz19_0
                try clear hfz19_1
                try clear hfz19_2
                try clear hfz21_0
                try clear hfz21_1
                try clear hfz21_2
                try clear hfz5_0
                try clear hx214_0
                try clear hx214_1
                try clear hx214_2
                try clear hx216_0
                try clear hx216_1
                try clear hx216_2
                try clear hx217_0
                try clear hx217_1
                try clear hx217_2
                try clear hx218_0
                try clear hx218_1
                try clear hx218_2
                try clear p2
                try clear p214
                try clear p216
                try clear p217
                try clear p218
                try clear q214
                try clear q216
                try clear q217
                try clear q218
                obtain ⟨kq, x54_8, rfl, HA, HJ8, BK213, BK215, HB⟩ := hcut
                cases kq with
                | zero => exact absurd HA.out (by simp [tabardlaw13_same.j1])
                | succ kj8 =>
                  have H := HA.out
                  clear HA
                  simp only [tabardlaw13_same.j1] at H
                  by_cases c22 : x54_8 = true
                  · subst c22
                    have H1 : (some false) = some r := by rw [if_pos rfl] at H; exact H
                    clear H
                    have H := H1
                    clear H1
                    obtain rfl := Option.some.inj H
                    go_wp2
                    repeat (go_quiet (fail); try go_wp2)
                    go_ret
                    exact ⟨by first | rfl | (simp [errW_none, errW_some] <;> rfl) | (simp [*, errW_none, errW_some] <;> rfl), by repeat (first | (with_reducible first | exact HB.out | apply below_alloc | apply pw_below_drewN | apply below_drew1 | refine below_set ?_ GE213.out | refine below_set ?_ GE215.out) | exact HB.out)⟩
                  · replace c22 := Bool.eq_false_iff.mpr c22
                    subst c22
                    have H1 : (tabardlaw13_same.l1 kj8 l1 x5_1 0 l0_0 ((rd_T62 l0_0 x5_1).f0) ((rd_T62 l0_0 x5_1).f1) ((rd_T62 l0_0 x5_1).f2)) = some r := by rw [if_neg (show ¬ (false = true) by decide)] at H; exact H
                    clear H
                    have H := H1
                    clear H1
                    have H' := Aside0.mk H
                    clear H
                    go_wp2
                    repeat (go_quiet (fail); try go_wp2)
                    go_loopg [7] kj8 (fun kq v7 w' => ∃ (x7_3 : Int), v7 = .int .i64 x7_3 ∧ Aside0 (tabardlaw13_same.l1 kq l1 x5_1 x7_3 l0_0 ((rd_T62 l0_0 x5_1).f0) ((rd_T62 l0_0 x5_1).f1) ((rd_T62 l0_0 x5_1).f2) = some r) ∧ Aside0 (kq ≤ kj8) ∧ Aside0 (w'.heap[gb213]? = some (.cells #[(.slice (some ad214) l0_0.length c0_0)] 55 (0, 0))) ∧ Aside0 (w'.heap[gb215]? = some (.cells #[(.slice A214_0 ((rd_T62 l0_0 x5_1).f0).length c214_0), .bool ((rd_T62 l0_0 x5_1).f1), .int .i64 ((rd_T62 l0_0 x5_1).f2)] 62 (0, 0))) ∧ Aside0 (Below w.heap.size w w'))
                    case atStart => exact ⟨(0), (by first | rfl | (simp; done) | (simp [*]; done) | (simp [bne]; done)), H', ⟨Nat.le_refl _⟩, ⟨by (with_reducible repeat (first | refine blk_drewN ?_ _ | refine blk_drew ?_ | refine blk_alloc ?_ _)); exact BK213.out⟩, ⟨by (with_reducible repeat (first | refine blk_drewN ?_ _ | refine blk_drew ?_ | refine blk_alloc ?_ _)); exact BK215.out⟩, ⟨by repeat (first | (with_reducible first | exact HB.out | apply below_alloc | apply pw_below_drewN | apply below_drew1 | refine below_set ?_ GE213.out | refine below_set ?_ GE215.out) | exact HB.out)⟩⟩
                    case round =>
                      clear H'
                      try clear c1
                      try clear c2
                      try clear p2
                      try clear q2
                      try clear hx2
                      try clear c3
                      try clear c3b0
                      try clear c3b1
                      try clear c3b2
                      try clear c6
                      try clear c6b0
                      try clear c7
                      try clear c7b0
                      try clear c8
                      try clear c8b0
                      try clear c12
                      try clear c14
                      try clear c14b0
                      try clear c14b1
                      try clear c14b2
                      try clear c15
                      try clear c17
                      try clear c17b0
                      try clear c17b1
                      try clear c18
                      try clear c20
                      try clear c21
                      try clear p21
                      try clear q21
                      try clear hx21
                      try clear c22
                      try clear hcz10_0
                      try clear hcz13_0
                      try clear hcz13_1
                      try clear hcz13_2
                      try clear hcz16_0
                      try clear hcz16_1
                      try clear hcz16_2
                      try clear hcz19_0
                      try clear hcz19_1
                      try clear hcz19_2
                      try clear hcz21_0
                      try clear hcz21_1
                      try clear hcz21_2
                      try clear hcz5_0
                      try clear hfz10_0
                      try clear hfz13_0
                      try clear hfz13_1
                      try clear hfz13_2
                      try clear hfz16_0
                      try clear hfz16_1
                      try clear hfz16_2
                      try clear hfz19_0
                      try clear hfz19_1
                      try clear hfz19_2
                      try clear hfz21_0
                      try clear hfz21_1
                      try clear hfz21_2
                      try clear hfz5_0
                      try clear hx214_0
                      try clear hx214_1
                      try clear hx214_2
                      try clear hx216_0
                      try clear hx216_1
                      try clear hx216_2
                      try clear hx217_0
                      try clear hx217_1
                      try clear hx217_2
                      try clear hx218_0
                      try clear hx218_1
                      try clear hx218_2
                      try clear p2
                      try clear p21
                      try clear p214
                      try clear p216
                      try clear p217
                      try clear p218
                      try clear q2
                      try clear q21
                      try clear q214
                      try clear q216
                      try clear q217
                      try clear q218
                      obtain ⟨x7_3, rfl, HA, HK3, BK213, BK215, HB⟩ := hrel
                      cases gk with
                      | zero => exact absurd HA.out (by simp [tabardlaw13_same.l1])
                      | succ k3 =>
                        have H := HA.out
                        clear HA
                        simp only [tabardlaw13_same.l1] at H
                        by_cases c23 : x7_3 < (((rd_T62 l0_0 x5_1).f0).length : Int)
                        · rw [if_pos c23] at H
                          have c23b0 : decide (x7_3 < (((rd_T62 l0_0 x5_1).f0).length : Int)) = true := decide_eq_true c23
                          clear c23
                          by_cases c24 : 0 ≤ x7_3
                          · rw [if_pos c24] at H
                            have c24b0 : decide (0 ≤ x7_3) = true := decide_eq_true c24
                            clear c24
                            by_cases c25 : 0 ≤ x5_1
                            · rw [if_pos c25] at H
                              have c25b0 : decide (0 ≤ x5_1) = true := decide_eq_true c25
                              clear c25
                              by_cases c26 : x5_1 < (l1.length : Int)
                              · rw [if_pos c26] at H
                                have c26b0 : decide (x5_1 < (l1.length : Int)) = true := decide_eq_true c26
                                clear c26
                                by_cases c27 : x7_3 < (((rd_T66 l1 x5_1).f0).length : Int)
                                · rw [if_pos c27] at H
                                  have c27b0 : decide (x7_3 < (((rd_T66 l1 x5_1).f0).length : Int)) = true := decide_eq_true c27
                                  clear c27
                                  by_cases c28 : ((rd_T88 ((rd_T62 l0_0 x5_1).f0) x7_3).f0) = ((rd_T98 ((rd_T66 l1 x5_1).f0) x7_3).f0)
                                  · rw [if_pos c28] at H
                                    have c28b0 : (((rd_T88 ((rd_T62 l0_0 x5_1).f0) x7_3).f0) == ((rd_T98 ((rd_T66 l1 x5_1).f0) x7_3).f0)) = true := beq_iff_eq.mpr c28
                                    have c28b1 : (((rd_T88 ((rd_T62 l0_0 x5_1).f0) x7_3).f0) != ((rd_T98 ((rd_T66 l1 x5_1).f0) x7_3).f0)) = false := bne_eq_false_iff_eq.mpr c28
                                    clear c28
                                    by_cases c29 : ((rd_T88 ((rd_T62 l0_0 x5_1).f0) x7_3).f1).toList = ((rd_T98 ((rd_T66 l1 x5_1).f0) x7_3).f1).toList
                                    · rw [if_pos c29] at H
                                      have c29b0 : (((rd_T88 ((rd_T62 l0_0 x5_1).f0) x7_3).f1).toList == ((rd_T98 ((rd_T66 l1 x5_1).f0) x7_3).f1).toList) = true := beq_iff_eq.mpr c29
                                      have c29b1 : (((rd_T88 ((rd_T62 l0_0 x5_1).f0) x7_3).f1).toList != ((rd_T98 ((rd_T66 l1 x5_1).f0) x7_3).f1).toList) = false := bne_eq_false_iff_eq.mpr c29
                                      clear c29
                                      have H' := Aside0.mk H
                                      clear H
                                      have hnb30 := NB215_213.out
                                      have hnc30 := NB213_215.out
                                      have hcz31_0 : wr.cell? ⟨gb215, 0, none⟩ = some (.slice A214_0 ((rd_T62 l0_0 x5_1).f0).length c214_0) := (blk_cell BK215.out 0).trans rfl
                                      have hcz31_1 : wr.cell? ⟨gb215, 1, none⟩ = some (.bool ((rd_T62 l0_0 x5_1).f1)) := (blk_cell BK215.out 1).trans rfl
                                      have hcz31_2 : wr.cell? ⟨gb215, 2, none⟩ = some (.int .i64 ((rd_T62 l0_0 x5_1).f2)) := (blk_cell BK215.out 2).trans rfl
                                      have hfz31_0 := blk_frozen BK215.out 0
                                      have hfz31_1 := blk_frozen BK215.out 1
                                      have hfz31_2 := blk_frozen BK215.out 2
                                      have p219 : 0 ≤ (x7_3 : Int) := of_decide_eq_true (by first | (with_reducible assumption) | assumption)
                                      have q219 : x7_3 < (((rd_T62 l0_0 x5_1).f0).length : Int) := of_decide_eq_true (by first | (with_reducible assumption) | assumption)
                                      obtain ⟨ad219, e219, hx219_0, hx219_1⟩ := at_T88 HR214_0.out x7_3 p219 q219
                                      cases e219
                                      replace hx219_0 := (HB.out.cell (World.block_lt_of_cell? w _ hx219_0)).trans hx219_0
                                      replace hx219_1 := (HB.out.cell (World.block_lt_of_cell? w _ hx219_1)).trans hx219_1
                                      replace p219 := eq_true p219
                                      replace q219 := eq_true q219
                                      have p220 : 0 ≤ (x5_1 : Int) := of_decide_eq_true (by first | (with_reducible assumption) | assumption)
                                      have q220 : x5_1 < (l1.length : Int) := of_decide_eq_true (by first | (with_reducible assumption) | assumption)
                                      obtain ⟨ad220, A220_0, c220_0, e220, hx220_0, hx220_1, hx220_2, hl220_0, hi220_0⟩ := at_T66 HR1.out x5_1 p220 q220
                                      cases e220
                                      replace hx220_0 := (HB.out.cell (World.block_lt_of_cell? w _ hx220_0)).trans hx220_0
                                      replace hx220_1 := (HB.out.cell (World.block_lt_of_cell? w _ hx220_1)).trans hx220_1
                                      replace hx220_2 := (HB.out.cell (World.block_lt_of_cell? w _ hx220_2)).trans hx220_2
                                      have HR220_0 := Aside0.mk hi220_0
                                      have HC220_0 := Aside0.mk hl220_0
                                      clear hi220_0 hl220_0
                                      replace p220 := eq_true p220
                                      replace q220 := eq_true q220
                                      have p221 : 0 ≤ (x7_3 : Int) := of_decide_eq_true (by first | (with_reducible assumption) | assumption)
                                      have q221 : x7_3 < (((rd_T66 l1 x5_1).f0).length : Int) := of_decide_eq_true (by first | (with_reducible assumption) | assumption)
                                      obtain ⟨ad221, e221, hx221_0, hx221_1⟩ := at_T98 HR220_0.out x7_3 p221 q221
                                      cases e221
                                      replace hx221_0 := (HB.out.cell (World.block_lt_of_cell? w _ hx221_0)).trans hx221_0
                                      replace hx221_1 := (HB.out.cell (World.block_lt_of_cell? w _ hx221_1)).trans hx221_1
                                      replace p221 := eq_true p221
                                      replace q221 := eq_true q221
                                      have p222 : 0 ≤ (x7_3 : Int) := of_decide_eq_true (by first | (with_reducible assumption) | assumption)
                                      have q222 : x7_3 < (((rd_T62 l0_0 x5_1).f0).length : Int) := of_decide_eq_true (by first | (with_reducible assumption) | assumption)
                                      obtain ⟨ad222, e222, hx222_0, hx222_1⟩ := at_T88 HR214_0.out x7_3 p222 q222
                                      obtain rfl : ad219 = ad222 := (by injection e222)
                                      replace hx222_0 := (HB.out.cell (World.block_lt_of_cell? w _ hx222_0)).trans hx222_0
                                      replace hx222_1 := (HB.out.cell (World.block_lt_of_cell? w _ hx222_1)).trans hx222_1
                                      replace p222 := eq_true p222
                                      replace q222 := eq_true q222
                                      have p223 : 0 ≤ (x5_1 : Int) := of_decide_eq_true (by first | (with_reducible assumption) | assumption)
                                      have q223 : x5_1 < (l1.length : Int) := of_decide_eq_true (by first | (with_reducible assumption) | assumption)
                                      obtain ⟨ad223, A223_0, c223_0, e223, hx223_0, hx223_1, hx223_2, hl223_0, hi223_0⟩ := at_T66 HR1.out x5_1 p223 q223
                                      obtain rfl : ad220 = ad223 := (by injection e223)
                                      replace hx223_0 := (HB.out.cell (World.block_lt_of_cell? w _ hx223_0)).trans hx223_0
                                      replace hx223_1 := (HB.out.cell (World.block_lt_of_cell? w _ hx223_1)).trans hx223_1
                                      replace hx223_2 := (HB.out.cell (World.block_lt_of_cell? w _ hx223_2)).trans hx223_2
                                      have HR223_0 := Aside0.mk hi223_0
                                      have HC223_0 := Aside0.mk hl223_0
                                      clear hi223_0 hl223_0
                                      replace p223 := eq_true p223
                                      replace q223 := eq_true q223
                                      have ea_ := Option.some.inj (hx220_0.symm.trans hx223_0)
                                      injection ea_ with ea_ en_ ec_
                                      subst ea_
                                      subst ec_
                                      clear en_
                                      have p224 : 0 ≤ (x7_3 : Int) := of_decide_eq_true (by first | (with_reducible assumption) | assumption)
                                      have q224 : x7_3 < (((rd_T66 l1 x5_1).f0).length : Int) := of_decide_eq_true (by first | (with_reducible assumption) | assumption)
                                      obtain ⟨ad224, e224, hx224_0, hx224_1⟩ := at_T98 HR223_0.out x7_3 p224 q224
                                      cases e224
                                      replace hx224_0 := (HB.out.cell (World.block_lt_of_cell? w _ hx224_0)).trans hx224_0
                                      replace hx224_1 := (HB.out.cell (World.block_lt_of_cell? w _ hx224_1)).trans hx224_1
                                      replace p224 := eq_true p224
                                      replace q224 := eq_true q224
                                      go_wp2
                                      repeat (go_quiet (fail); try go_wp2)
                                      go_roundg k3
                                      case measure => have := HK1.out; have := HJ8.out; have := HK3.out; omega
                                      case rel => exact ⟨(wrap64 (x7_3 + 1)), (by first | rfl | (simp; done) | (simp [*]; done) | (simp [bne]; done)), H', ⟨by have := HK1.out; have := HJ8.out; have := HK3.out; omega⟩, ⟨by (with_reducible repeat (first | refine blk_drewN ?_ _ | refine blk_drew ?_ | refine blk_alloc ?_ _)); exact BK213.out⟩, ⟨by (with_reducible repeat (first | refine blk_drewN ?_ _ | refine blk_drew ?_ | refine blk_alloc ?_ _)); exact BK215.out⟩, ⟨by repeat (first | (with_reducible first | exact HB.out | apply below_alloc | apply pw_below_drewN | apply below_drew1 | refine below_set ?_ GE213.out | refine below_set ?_ GE215.out) | exact HB.out)⟩⟩
                                    · rw [if_neg c29] at H
                                      have c29b0 : (((rd_T88 ((rd_T62 l0_0 x5_1).f0) x7_3).f1).toList == ((rd_T98 ((rd_T66 l1 x5_1).f0) x7_3).f1).toList) = false := beq_eq_false_iff_ne.mpr c29
                                      have c29b1 : (((rd_T88 ((rd_T62 l0_0 x5_1).f0) x7_3).f1).toList != ((rd_T98 ((rd_T66 l1 x5_1).f0) x7_3).f1).toList) = true := bne_iff_ne.mpr c29
                                      obtain rfl := Option.some.inj H
                                      have hnb32 := NB215_213.out
                                      have hnc32 := NB213_215.out
                                      have hcz33_0 : wr.cell? ⟨gb215, 0, none⟩ = some (.slice A214_0 ((rd_T62 l0_0 x5_1).f0).length c214_0) := (blk_cell BK215.out 0).trans rfl
                                      have hcz33_1 : wr.cell? ⟨gb215, 1, none⟩ = some (.bool ((rd_T62 l0_0 x5_1).f1)) := (blk_cell BK215.out 1).trans rfl
                                      have hcz33_2 : wr.cell? ⟨gb215, 2, none⟩ = some (.int .i64 ((rd_T62 l0_0 x5_1).f2)) := (blk_cell BK215.out 2).trans rfl
                                      have hfz33_0 := blk_frozen BK215.out 0
                                      have hfz33_1 := blk_frozen BK215.out 1
                                      have hfz33_2 := blk_frozen BK215.out 2
                                      have p219 : 0 ≤ (x7_3 : Int) := of_decide_eq_true (by first | (with_reducible assumption) | assumption)
                                      have q219 : x7_3 < (((rd_T62 l0_0 x5_1).f0).length : Int) := of_decide_eq_true (by first | (with_reducible assumption) | assumption)
                                      obtain ⟨ad219, e219, hx219_0, hx219_1⟩ := at_T88 HR214_0.out x7_3 p219 q219
                                      cases e219
                                      replace hx219_0 := (HB.out.cell (World.block_lt_of_cell? w _ hx219_0)).trans hx219_0
                                      replace hx219_1 := (HB.out.cell (World.block_lt_of_cell? w _ hx219_1)).trans hx219_1
                                      replace p219 := eq_true p219
                                      replace q219 := eq_true q219
                                      have p220 : 0 ≤ (x5_1 : Int) := of_decide_eq_true (by first | (with_reducible assumption) | assumption)
                                      have q220 : x5_1 < (l1.length : Int) := of_decide_eq_true (by first | (with_reducible assumption) | assumption)
                                      obtain ⟨ad220, A220_0, c220_0, e220, hx220_0, hx220_1, hx220_2, hl220_0, hi220_0⟩ := at_T66 HR1.out x5_1 p220 q220
                                      cases e220
                                      replace hx220_0 := (HB.out.cell (World.block_lt_of_cell? w _ hx220_0)).trans hx220_0
                                      replace hx220_1 := (HB.out.cell (World.block_lt_of_cell? w _ hx220_1)).trans hx220_1
                                      replace hx220_2 := (HB.out.cell (World.block_lt_of_cell? w _ hx220_2)).trans hx220_2
                                      have HR220_0 := Aside0.mk hi220_0
                                      have HC220_0 := Aside0.mk hl220_0
                                      clear hi220_0 hl220_0
                                      replace p220 := eq_true p220
                                      replace q220 := eq_true q220
                                      have p221 : 0 ≤ (x7_3 : Int) := of_decide_eq_true (by first | (with_reducible assumption) | assumption)
                                      have q221 : x7_3 < (((rd_T66 l1 x5_1).f0).length : Int) := of_decide_eq_true (by first | (with_reducible assumption) | assumption)
                                      obtain ⟨ad221, e221, hx221_0, hx221_1⟩ := at_T98 HR220_0.out x7_3 p221 q221
                                      cases e221
                                      replace hx221_0 := (HB.out.cell (World.block_lt_of_cell? w _ hx221_0)).trans hx221_0
                                      replace hx221_1 := (HB.out.cell (World.block_lt_of_cell? w _ hx221_1)).trans hx221_1
                                      replace p221 := eq_true p221
                                      replace q221 := eq_true q221
                                      have p222 : 0 ≤ (x7_3 : Int) := of_decide_eq_true (by first | (with_reducible assumption) | assumption)
                                      have q222 : x7_3 < (((rd_T62 l0_0 x5_1).f0).length : Int) := of_decide_eq_true (by first | (with_reducible assumption) | assumption)
                                      obtain ⟨ad222, e222, hx222_0, hx222_1⟩ := at_T88 HR214_0.out x7_3 p222 q222
                                      obtain rfl : ad219 = ad222 := (by injection e222)
                                      replace hx222_0 := (HB.out.cell (World.block_lt_of_cell? w _ hx222_0)).trans hx222_0
                                      replace hx222_1 := (HB.out.cell (World.block_lt_of_cell? w _ hx222_1)).trans hx222_1
                                      replace p222 := eq_true p222
                                      replace q222 := eq_true q222
                                      have p223 : 0 ≤ (x5_1 : Int) := of_decide_eq_true (by first | (with_reducible assumption) | assumption)
                                      have q223 : x5_1 < (l1.length : Int) := of_decide_eq_true (by first | (with_reducible assumption) | assumption)
                                      obtain ⟨ad223, A223_0, c223_0, e223, hx223_0, hx223_1, hx223_2, hl223_0, hi223_0⟩ := at_T66 HR1.out x5_1 p223 q223
                                      obtain rfl : ad220 = ad223 := (by injection e223)
                                      replace hx223_0 := (HB.out.cell (World.block_lt_of_cell? w _ hx223_0)).trans hx223_0
                                      replace hx223_1 := (HB.out.cell (World.block_lt_of_cell? w _ hx223_1)).trans hx223_1
                                      replace hx223_2 := (HB.out.cell (World.block_lt_of_cell? w _ hx223_2)).trans hx223_2
                                      have HR223_0 := Aside0.mk hi223_0
                                      have HC223_0 := Aside0.mk hl223_0
                                      clear hi223_0 hl223_0
                                      replace p223 := eq_true p223
                                      replace q223 := eq_true q223
                                      have ea_ := Option.some.inj (hx220_0.symm.trans hx223_0)
                                      injection ea_ with ea_ en_ ec_
                                      subst ea_
                                      subst ec_
                                      clear en_
                                      have p224 : 0 ≤ (x7_3 : Int) := of_decide_eq_true (by first | (with_reducible assumption) | assumption)
                                      have q224 : x7_3 < (((rd_T66 l1 x5_1).f0).length : Int) := of_decide_eq_true (by first | (with_reducible assumption) | assumption)
                                      obtain ⟨ad224, e224, hx224_0, hx224_1⟩ := at_T98 HR223_0.out x7_3 p224 q224
                                      cases e224
                                      replace hx224_0 := (HB.out.cell (World.block_lt_of_cell? w _ hx224_0)).trans hx224_0
                                      replace hx224_1 := (HB.out.cell (World.block_lt_of_cell? w _ hx224_1)).trans hx224_1
                                      replace p224 := eq_true p224
                                      replace q224 := eq_true q224
                                      go_wp2
                                      repeat (go_quiet (fail); try go_wp2)
                                      go_ret
                                      exact ⟨by first | rfl | (simp [errW_none, errW_some] <;> rfl) | (simp [*, errW_none, errW_some] <;> rfl), by repeat (first | (with_reducible first | exact HB.out | apply below_alloc | apply pw_below_drewN | apply below_drew1 | refine below_set ?_ GE213.out | refine below_set ?_ GE215.out) | exact HB.out)⟩
                                  · rw [if_neg c28] at H
                                    have c28b0 : (((rd_T88 ((rd_T62 l0_0 x5_1).f0) x7_3).f0) == ((rd_T98 ((rd_T66 l1 x5_1).f0) x7_3).f0)) = false := beq_eq_false_iff_ne.mpr c28
                                    have c28b1 : (((rd_T88 ((rd_T62 l0_0 x5_1).f0) x7_3).f0) != ((rd_T98 ((rd_T66 l1 x5_1).f0) x7_3).f0)) = true := bne_iff_ne.mpr c28
                                    obtain rfl := Option.some.inj H
                                    have hnb34 := NB215_213.out
                                    have hnc34 := NB213_215.out
                                    have hcz35_0 : wr.cell? ⟨gb215, 0, none⟩ = some (.slice A214_0 ((rd_T62 l0_0 x5_1).f0).length c214_0) := (blk_cell BK215.out 0).trans rfl
                                    have hcz35_1 : wr.cell? ⟨gb215, 1, none⟩ = some (.bool ((rd_T62 l0_0 x5_1).f1)) := (blk_cell BK215.out 1).trans rfl
                                    have hcz35_2 : wr.cell? ⟨gb215, 2, none⟩ = some (.int .i64 ((rd_T62 l0_0 x5_1).f2)) := (blk_cell BK215.out 2).trans rfl
                                    have hfz35_0 := blk_frozen BK215.out 0
                                    have hfz35_1 := blk_frozen BK215.out 1
                                    have hfz35_2 := blk_frozen BK215.out 2
                                    have p219 : 0 ≤ (x7_3 : Int) := of_decide_eq_true (by first | (with_reducible assumption) | assumption)
                                    have q219 : x7_3 < (((rd_T62 l0_0 x5_1).f0).length : Int) := of_decide_eq_true (by first | (with_reducible assumption) | assumption)
                                    obtain ⟨ad219, e219, hx219_0, hx219_1⟩ := at_T88 HR214_0.out x7_3 p219 q219
                                    cases e219
                                    replace hx219_0 := (HB.out.cell (World.block_lt_of_cell? w _ hx219_0)).trans hx219_0
                                    replace hx219_1 := (HB.out.cell (World.block_lt_of_cell? w _ hx219_1)).trans hx219_1
                                    replace p219 := eq_true p219
                                    replace q219 := eq_true q219
                                    have p220 : 0 ≤ (x5_1 : Int) := of_decide_eq_true (by first | (with_reducible assumption) | assumption)
                                    have q220 : x5_1 < (l1.length : Int) := of_decide_eq_true (by first | (with_reducible assumption) | assumption)
                                    obtain ⟨ad220, A220_0, c220_0, e220, hx220_0, hx220_1, hx220_2, hl220_0, hi220_0⟩ := at_T66 HR1.out x5_1 p220 q220
                                    cases e220
                                    replace hx220_0 := (HB.out.cell (World.block_lt_of_cell? w _ hx220_0)).trans hx220_0
                                    replace hx220_1 := (HB.out.cell (World.block_lt_of_cell? w _ hx220_1)).trans hx220_1
                                    replace hx220_2 := (HB.out.cell (World.block_lt_of_cell? w _ hx220_2)).trans hx220_2
                                    have HR220_0 := Aside0.mk hi220_0
                                    have HC220_0 := Aside0.mk hl220_0
                                    clear hi220_0 hl220_0
                                    replace p220 := eq_true p220
                                    replace q220 := eq_true q220
                                    have p221 : 0 ≤ (x7_3 : Int) := of_decide_eq_true (by first | (with_reducible assumption) | assumption)
                                    have q221 : x7_3 < (((rd_T66 l1 x5_1).f0).length : Int) := of_decide_eq_true (by first | (with_reducible assumption) | assumption)
                                    obtain ⟨ad221, e221, hx221_0, hx221_1⟩ := at_T98 HR220_0.out x7_3 p221 q221
                                    cases e221
                                    replace hx221_0 := (HB.out.cell (World.block_lt_of_cell? w _ hx221_0)).trans hx221_0
                                    replace hx221_1 := (HB.out.cell (World.block_lt_of_cell? w _ hx221_1)).trans hx221_1
                                    replace p221 := eq_true p221
                                    replace q221 := eq_true q221
                                    go_wp2
                                    repeat (go_quiet (fail); try go_wp2)
                                    go_ret
                                    exact ⟨by first | rfl | (simp [errW_none, errW_some] <;> rfl) | (simp [*, errW_none, errW_some] <;> rfl), by repeat (first | (with_reducible first | exact HB.out | apply below_alloc | apply pw_below_drewN | apply below_drew1 | refine below_set ?_ GE213.out | refine below_set ?_ GE215.out) | exact HB.out)⟩
                                · rw [if_neg c27] at H
                                  exact absurd H (by simp)
                              · rw [if_neg c26] at H
                                exact absurd H (by simp)
                            · rw [if_neg c25] at H
                              exact absurd H (by simp)
                          · rw [if_neg c24] at H
                            exact absurd H (by simp)
                        · rw [if_neg c23] at H
                          have c23b0 : decide (x7_3 < (((rd_T62 l0_0 x5_1).f0).length : Int)) = false := decide_eq_false c23
                          clear c23
                          have H' := Aside0.mk H
                          clear H
                          have hnb36 := NB215_213.out
                          have hnc36 := NB213_215.out
                          have hcz37_0 : wr.cell? ⟨gb215, 0, none⟩ = some (.slice A214_0 ((rd_T62 l0_0 x5_1).f0).length c214_0) := (blk_cell BK215.out 0).trans rfl
                          have hcz37_1 : wr.cell? ⟨gb215, 1, none⟩ = some (.bool ((rd_T62 l0_0 x5_1).f1)) := (blk_cell BK215.out 1).trans rfl
                          have hcz37_2 : wr.cell? ⟨gb215, 2, none⟩ = some (.int .i64 ((rd_T62 l0_0 x5_1).f2)) := (blk_cell BK215.out 2).trans rfl
                          have hfz37_0 := blk_frozen BK215.out 0
                          have hfz37_1 := blk_frozen BK215.out 1
                          have hfz37_2 := blk_frozen BK215.out 2
                          go_wp2
                          repeat (go_quiet (fail); try go_wp2)
                          go_roundg k3
                          case measure => have := HK1.out; have := HJ8.out; have := HK3.out; omega
                          case rel => exact ⟨(wrap64 (x5_1 + 1)), (by first | rfl | (simp; done) | (simp [*]; done) | (simp [bne]; done)), H', ⟨by have := HK1.out; have := HJ8.out; have := HK3.out; omega⟩, ⟨by (with_reducible repeat (first | refine blk_drewN ?_ _ | refine blk_drew ?_ | refine blk_alloc ?_ _)); exact BK213.out⟩, ⟨by repeat (first | (with_reducible first | exact HB.out | apply below_alloc | apply pw_below_drewN | apply below_drew1 | refine below_set ?_ GE213.out | refine below_set ?_ GE215.out) | exact HB.out)⟩⟩
            · rw [if_neg c8] at H
              exact absurd H (by simp)
          · rw [if_neg c7] at H
            exact absurd H (by simp)
        · rw [if_neg c6] at H
          have c6b0 : decide (x5_1 < (l1.length : Int)) = false := decide_eq_false c6
          clear c6
          obtain rfl := Option.some.inj H
          go_wp2
          repeat (go_quiet (fail); try go_wp2)
          go_ret
          exact ⟨by first | rfl | (simp [errW_none, errW_some] <;> rfl) | (simp [*, errW_none, errW_some] <;> rfl), by repeat (first | (with_reducible first | exact HB.out | apply below_alloc | apply pw_below_drewN | apply below_drew1 | refine below_set ?_ GE213.out) | exact HB.out)⟩
  · rw [if_neg c3] at H
    have c3b0 : ((l0_0.length : Int) == (l1.length : Int)) = false := beq_eq_false_iff_ne.mpr c3
    have c3b1 : ((l0_0.length : Int) != (l1.length : Int)) = true := bne_iff_ne.mpr c3
    have c3b2 : (l0_0.length == l1.length) = false := by first | simpa using c3 | (simp at c3 ⊢; omega)
    obtain rfl := Option.some.inj H
    go_enter Tryd.func38, Tryd.ntmps38
    go_wp2_with (first | ((with_reducible refine gate_dst (N := 2) rfl ?_); (try (refine gate_guard (by rfl) ?_; dsimp only)); refine box_event ?hg (N := 2) ?hd (cs := #[.slice A0_0 l0_0.length c0_0]) (t := 55) ?hr ?_; (case hd => rfl); (case hg => rfl); (case hr => first | (go_simp; done) | (go_simp; rfl)); intro gb213 hg w38 hbox hb; have n0_ := Aside0.mk (below_step (by repeat (first | (with_reducible first | exact HB.out | apply below_alloc | apply pw_below_drewN | apply below_drew1) | exact HB.out)) hb); have n1_ := Aside0.mk (hbox); have n2_ := Aside0.mk ((by rw [hg]; exact (below_size (by repeat (first | (with_reducible first | exact HB.out | apply below_alloc | apply pw_below_drewN | apply below_drew1) | exact HB.out))) : w.heap.size ≤ gb213)); have n3_ := Aside0.mk ((by rw [hg]; exact (below_size (by repeat (first | (with_reducible first | exact HB.out | apply below_alloc | apply pw_below_drewN | apply below_drew1) | exact HB.out))) : w.heap.size ≤ gb213)); clear HB; have HB := n0_; have BK213 := n1_; have GW213 := n2_; have GE213 := n3_; clear n0_ n1_ n2_ n3_; clear hb hbox hg; have hcz39_0 : w38.cell? ⟨gb213, 0, none⟩ = some (.slice A0_0 l0_0.length c0_0) := (blk_cell BK213.out 0).trans rfl; have hfz39_0 := blk_frozen BK213.out 0))
    repeat (go_quiet (first | ((with_reducible refine gate_dst (N := 2) rfl ?_); (try (refine gate_guard (by rfl) ?_; dsimp only)); refine box_event ?hg (N := 2) ?hd (cs := #[.slice A0_0 l0_0.length c0_0]) (t := 55) ?hr ?_; (case hd => rfl); (case hg => rfl); (case hr => first | (go_simp; done) | (go_simp; rfl)); intro gb213 hg w38 hbox hb; have n0_ := Aside0.mk (below_step (by repeat (first | (with_reducible first | exact HB.out | apply below_alloc | apply pw_below_drewN | apply below_drew1) | exact HB.out)) hb); have n1_ := Aside0.mk (hbox); have n2_ := Aside0.mk ((by rw [hg]; exact (below_size (by repeat (first | (with_reducible first | exact HB.out | apply below_alloc | apply pw_below_drewN | apply below_drew1) | exact HB.out))) : w.heap.size ≤ gb213)); have n3_ := Aside0.mk ((by rw [hg]; exact (below_size (by repeat (first | (with_reducible first | exact HB.out | apply below_alloc | apply pw_below_drewN | apply below_drew1) | exact HB.out))) : w.heap.size ≤ gb213)); clear HB; have HB := n0_; have BK213 := n1_; have GW213 := n2_; have GE213 := n3_; clear n0_ n1_ n2_ n3_; clear hb hbox hg; have hcz39_0 : w38.cell? ⟨gb213, 0, none⟩ = some (.slice A0_0 l0_0.length c0_0) := (blk_cell BK213.out 0).trans rfl; have hfz39_0 := blk_frozen BK213.out 0)); try go_wp2_with (first | ((with_reducible refine gate_dst (N := 2) rfl ?_); (try (refine gate_guard (by rfl) ?_; dsimp only)); refine box_event ?hg (N := 2) ?hd (cs := #[.slice A0_0 l0_0.length c0_0]) (t := 55) ?hr ?_; (case hd => rfl); (case hg => rfl); (case hr => first | (go_simp; done) | (go_simp; rfl)); intro gb213 hg w38 hbox hb; have n0_ := Aside0.mk (below_step (by repeat (first | (with_reducible first | exact HB.out | apply below_alloc | apply pw_below_drewN | apply below_drew1) | exact HB.out)) hb); have n1_ := Aside0.mk (hbox); have n2_ := Aside0.mk ((by rw [hg]; exact (below_size (by repeat (first | (with_reducible first | exact HB.out | apply below_alloc | apply pw_below_drewN | apply below_drew1) | exact HB.out))) : w.heap.size ≤ gb213)); have n3_ := Aside0.mk ((by rw [hg]; exact (below_size (by repeat (first | (with_reducible first | exact HB.out | apply below_alloc | apply pw_below_drewN | apply below_drew1) | exact HB.out))) : w.heap.size ≤ gb213)); clear HB; have HB := n0_; have BK213 := n1_; have GW213 := n2_; have GE213 := n3_; clear n0_ n1_ n2_ n3_; clear hb hbox hg; have hcz39_0 : w38.cell? ⟨gb213, 0, none⟩ = some (.slice A0_0 l0_0.length c0_0) := (blk_cell BK213.out 0).trans rfl; have hfz39_0 := blk_frozen BK213.out 0)))
    go_ret
    exact ⟨by first | rfl | (simp [errW_none, errW_some] <;> rfl) | (simp [*, errW_none, errW_some] <;> rfl), by repeat (first | (with_reducible first | exact HB.out | apply below_alloc | apply pw_below_drewN | apply below_drew1 | refine below_set ?_ GE213.out) | exact HB.out)⟩

-- taken with a contract of the session's own: function 115 (strings_Contains)

end Go.Proofs.YtmbhjogohfcjgaaDoor.P
