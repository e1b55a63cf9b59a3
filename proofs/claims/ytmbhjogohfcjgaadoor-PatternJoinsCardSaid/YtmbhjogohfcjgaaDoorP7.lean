-- Laid by wip/tools/xprint.py, a program of this session's, over the kit's print. Lean checks it.
import Derived.Test.YtmbhjogohfcjgaaDoorP0
import Derived.Test.YtmbhjogohfcjgaaDoorPs
namespace Go.Proofs.YtmbhjogohfcjgaaDoor.P
open Go.RowKit Go.Proofs.YtmbhjogohfcjgaaDoorW.PrintWords Go.Proofs.YtmbhjogohfcjgaaDoorW.PrintLast Go.Proofs.YtmbhjogohfcjgaaDoorW.PrintMore
attribute [local go_sem] max2_int min2_int max_two min_two max_three min_three max_four min_four   -- for this text's walks alone
set_option linter.unusedVariables false
set_option linter.unusedSimpArgs false
mutual
def pattern_Right.j0 : Nat → Bool → List (S62) → Option (Bool)
 | 0, _, _ => none
 | k + 1, x15, x187000 => if x15 = true then (some false) else (pattern_Right.l0 k 0 x187000 (x187000.length : Int) 0 x187000)
def pattern_Right.l0 : Nat → Int → List (S62) → Int → Int → List (S62) → Option (Bool)
 | 0, _, _, _, _, _ => none
 | k + 1, x3, x17, x18, x19, x187000 => if x19 < x18 then (if 0 ≤ x19 then (if x19 < (x17.length : Int) then (if (wrap64 (x3 + (((rd_T62 x17 x19).f0).length : Int))) > 100 then (some false) else (pattern_Right.l0 k (wrap64 (x3 + (((rd_T62 x17 x19).f0).length : Int))) x17 x18 (wrap64 (x19 + 1)) x187000)) else (none)) else (none)) else ((pattern_Pattern_wrong.f x187000).bind fun t189 => (some (decide (t189 < 0))))
end
def pattern_Right.f (k : Nat) (l0_0 : List (S62)) : Option (Bool) := if (l0_0.length : Int) < 1 then (pattern_Right.j0 k true l0_0) else (pattern_Right.j0 k (decide ((l0_0.length : Int) > 4)) l0_0)
theorem pattern_Right.mono_l : ∀ k, (∀ y0 y1, LeO (pattern_Right.j0 k y0 y1) (pattern_Right.j0 (k + 1) y0 y1)) ∧ (∀ y0 y1 y2 y3 y4, LeO (pattern_Right.l0 k y0 y1 y2 y3 y4) (pattern_Right.l0 (k + 1) y0 y1 y2 y3 y4))
 | 0 => ⟨fun _ _ r h => by simp [pattern_Right.j0] at h, fun _ _ _ _ _ r h => by simp [pattern_Right.l0] at h⟩
 | k + 1 => by
  obtain ⟨ih0, ih1⟩ := pattern_Right.mono_l k
  refine ⟨?_, ?_⟩
  ·intro y0 y1
   unfold pattern_Right.j0
   repeat' first
   | (with_reducible exact ih0 _ _)
   | (with_reducible exact ih1 _ _ _ _ _)
   | (with_reducible exact LeO.refl _)
   | (with_reducible exact LeO.none _)
   | (with_reducible refine LeO.ite ?_ ?_)
   | (with_reducible refine LeO.bind ?_ (fun _ => ?_))
   | exact ih0 _ _
   | exact ih1 _ _ _ _ _
   | exact LeO.none _
   | refine LeO.ite ?_ ?_
   | refine LeO.bind ?_ (fun _ => ?_)
  ·intro y0 y1 y2 y3 y4
   unfold pattern_Right.l0
   repeat' first
   | (with_reducible exact ih0 _ _)
   | (with_reducible exact ih1 _ _ _ _ _)
   | (with_reducible exact LeO.refl _)
   | (with_reducible exact LeO.none _)
   | (with_reducible refine LeO.ite ?_ ?_)
   | (with_reducible refine LeO.bind ?_ (fun _ => ?_))
   | exact ih0 _ _
   | exact ih1 _ _ _ _ _
   | exact LeO.none _
   | refine LeO.ite ?_ ?_
   | refine LeO.bind ?_ (fun _ => ?_)
theorem pattern_Right.mono : ∀ a0 k, LeO (pattern_Right.f k a0) (pattern_Right.f (k + 1) a0) := by
 intro a0 k
 obtain ⟨ih0, ih1⟩ := pattern_Right.mono_l k
 unfold pattern_Right.f
 repeat' first
   | (with_reducible exact ih0 _ _)
   | (with_reducible exact ih1 _ _ _ _ _)
   | (with_reducible exact LeO.refl _)
   | (with_reducible exact LeO.none _)
   | (with_reducible refine LeO.ite ?_ ?_)
   | (with_reducible refine LeO.bind ?_ (fun _ => ?_))
   | exact ih0 _ _
   | exact ih1 _ _ _ _ _
   | exact LeO.none _
   | refine LeO.ite ?_ ?_
   | refine LeO.bind ?_ (fun _ => ?_)
set_option maxHeartbeats 8000000 in
set_option maxRecDepth 100000 in
theorem pattern_Right.calls (k : Nat) (A0_0 : Option Addr) (c0_0 : Nat) (l0_0 : List (S62)) (r : Bool) (w : World) (hGL : GL w) (hr0_0 : Kd.C k62 w A0_0 l0_0.length l0_0) (hc0_0 : l0_0.length ≤ c0_0) (h : pattern_Right.f k l0_0 = some r) :
  Calls Tryd.prog 33 #[.agg #[.slice A0_0 l0_0.length c0_0]] w fun e w' => e = .returned (.bool r) ∧ Below w.heap.size w w' := by
 have hu55 := Tryd.underlying55
 have hu62 := Tryd.underlying62
 have HGL := Aside0.mk hGL
 clear hGL
 have HR0_0 := Aside0.mk hr0_0
 have HC0_0 := Aside0.mk hc0_0
 clear hr0_0 hc0_0
 have HB := Aside0.mk (Below.refl w.heap.size w)
 have H : (if (l0_0.length : Int) < 1 then (pattern_Right.j0 k true l0_0) else (pattern_Right.j0 k (decide ((l0_0.length : Int) > 4)) l0_0)) = some r := h
 clear h
 have HC2 := Aside0.mk H
 clear H
 go_enter Tryd.func33, Tryd.ntmps33
 go_upto_region 1 with (first | ((with_reducible refine gate_dst (N := 1) rfl ?_); (try (refine gate_guard (by rfl) ?_; dsimp only)); refine box_event ?hg (N := 1) ?hd (cs := #[.slice A0_0 l0_0.length c0_0]) (t := 55) ?hr ?_; (case hd => rfl); (case hg => rfl); (case hr => exact Z18); intro gb186 hg w3 hbox hb; have n0_ := Aside0.mk (below_step Z2 hb); have n1_ := Aside0.mk (hbox); have n2_ := Aside0.mk ((by rw [hg]; exact (below_size Z2) : w.heap.size ≤ gb186)); have n3_ := Aside0.mk ((by rw [hg]; exact (below_size Z2) : w.heap.size ≤ gb186)); clear HB; have HB := n0_; have BK186 := n1_; have GW186 := n2_; have GE186 := n3_; clear n0_ n1_ n2_ n3_; clear hb hbox hg))
 (try simp only [Act.put, List.setIfInBounds_toArray, List.set_cons_zero, List.set_cons_succ])
 go_cut [15] (fun v15 wc => ∃ (kq : Nat) (x15_1 : Bool), v15 = .bool x15_1 ∧ Aside0 (pattern_Right.j0 kq x15_1 l0_0 = some r) ∧ Aside0 (kq ≤ k) ∧ Aside0 (wc.heap[gb186]? = some (.cells #[(.slice A0_0 l0_0.length c0_0)] 55 (0, 0))) ∧ Aside0 (Below w.heap.size w wc))
 case first =>
  have H := HC2.out
  clear HC2
  by_cases c4 : (l0_0.length : Int) < 1
  ·rw [if_pos c4] at H
   have c4b0 : decide ((l0_0.length : Int) < 1) = true := decide_eq_true c4
   have c4b1 : decide (l0_0.length < 1) = true := decide_eq_true (by omega)
   clear c4
   (first | rw [c4b0] | (simp only [i64_w, i32_w]; rw [c4b0]) | skip)
   have H' := Aside0.mk H
   clear H
   have hcz5_0 : w3.cell? ⟨gb186, 0, none⟩ = some (.slice A0_0 l0_0.length c0_0) := (blk_cell BK186.out 0).trans rfl
   have hfz5_0 := blk_frozen BK186.out 0
   go_wp2
   go_meet
   case rel => exact ⟨_, (true), Z5, H', ⟨by first | omega | exact Nat.le_refl _⟩, ⟨by (with_reducible repeat (first | refine blk_drewN ?_ _ | refine blk_drew ?_ | refine blk_alloc ?_ _)); exact BK186.out⟩, ⟨by repeat (first | (with_reducible first | exact HB.out | apply below_alloc | apply pw_below_drewN | apply below_drew1 | refine below_set ?_ GE186.out) | exact HB.out)⟩⟩
  ·rw [if_neg c4] at H
   have c4b0 : decide ((l0_0.length : Int) < 1) = false := decide_eq_false c4
   have c4b1 : decide (l0_0.length < 1) = false := decide_eq_false (by omega)
   clear c4
   (first | rw [c4b0] | (simp only [i64_w, i32_w]; rw [c4b0]) | skip)
   have H' := Aside0.mk H
   clear H
   have hcz6_0 : w3.cell? ⟨gb186, 0, none⟩ = some (.slice A0_0 l0_0.length c0_0) := (blk_cell BK186.out 0).trans rfl
   have hfz6_0 := blk_frozen BK186.out 0
   go_wp2
   go_meet
   case rel => exact ⟨_, (decide ((l0_0.length : Int) > 4)), Z5, H', ⟨by first | omega | exact Nat.le_refl _⟩, ⟨by (with_reducible repeat (first | refine blk_drewN ?_ _ | refine blk_drew ?_ | refine blk_alloc ?_ _)); exact BK186.out⟩, ⟨by repeat (first | (with_reducible first | exact HB.out | apply below_alloc | apply pw_below_drewN | apply below_drew1 | refine below_set ?_ GE186.out) | exact HB.out)⟩⟩
 case rest =>
  clear HC2
  try clear p2
  try clear c3
  try clear c4
  try clear c4b0
  try clear c4b1
  try clear hcz5_0
  try clear hcz6_0
  try clear hfz5_0
  try clear hfz6_0
  obtain ⟨kq, x15_1, rfl, HA, HJ1, BK186, HB⟩ := hcut
  cases kq with
  | zero => exact absurd HA.out (by simp [pattern_Right.j0])
  | succ kj1 =>
   have H := HA.out
   clear HA
   simp only [pattern_Right.j0] at H
   by_cases c7 : x15_1 = true
   ·subst c7
    have H1 : (some false) = some r := by rw [if_pos rfl] at H; exact H
    clear H
    have H := H1
    clear H1
    obtain rfl := Option.some.inj H
    go_wp2
    go_ret
    exact Z55
   ·replace c7 := Bool.eq_false_iff.mpr c7
    subst c7
    have H1 : (pattern_Right.l0 kj1 0 l0_0 (l0_0.length : Int) 0 l0_0) = some r := by rw [if_neg (show ¬ (false = true) by decide)] at H; exact H
    clear H
    have H := H1
    clear H1
    have H' := Aside0.mk H
    clear H
    have hcz8_0 : wc.cell? ⟨gb186, 0, none⟩ = some (.slice A0_0 l0_0.length c0_0) := (blk_cell BK186.out 0).trans rfl
    have hfz8_0 := blk_frozen BK186.out 0
    go_wp2
    go_loopg [3, 19] kj1 (fun kq v3 v19 w' => ∃ (x3_2 : Int) (x19_2 : Int), v3 = .int .i64 x3_2 ∧ v19 = .int .i64 x19_2 ∧ Aside0 (pattern_Right.l0 kq x3_2 l0_0 (l0_0.length : Int) x19_2 l0_0 = some r) ∧ Aside0 (kq ≤ kj1) ∧ Aside0 (w'.heap[gb186]? = some (.cells #[(.slice A0_0 l0_0.length c0_0)] 55 (0, 0))) ∧ Aside0 (Below w.heap.size w w'))
    case atStart => exact ⟨(0), (0), Z5, Z5, H', ⟨Nat.le_refl _⟩, ⟨by (with_reducible repeat (first | refine blk_drewN ?_ _ | refine blk_drew ?_ | refine blk_alloc ?_ _)); exact BK186.out⟩, ⟨by repeat (first | (with_reducible first | exact HB.out | apply below_alloc | apply pw_below_drewN | apply below_drew1 | refine below_set ?_ GE186.out) | exact HB.out)⟩⟩
    case round =>
     clear H'
     try clear p2
     try clear c3
     try clear c4
     try clear c4b0
     try clear c4b1
     try clear c7
     try clear hcz5_0
     try clear hcz6_0
     try clear hcz8_0
     try clear hfz5_0
     try clear hfz6_0
     try clear hfz8_0
     try clear p2
     obtain ⟨x3_2, x19_2, rfl, rfl, HA, HK2, BK186, HB⟩ := hrel
     cases gk with
     | zero => exact absurd HA.out (by simp [pattern_Right.l0])
     | succ k2 =>
      have H := HA.out
      clear HA
      simp only [pattern_Right.l0] at H
      by_cases c9 : x19_2 < (l0_0.length : Int)
      ·rw [if_pos c9] at H
       have c9b0 : decide (x19_2 < (l0_0.length : Int)) = true := decide_eq_true c9
       clear c9
       by_cases c10 : 0 ≤ x19_2
       ·rw [if_pos c10] at H
        have c10b0 : decide (0 ≤ x19_2) = true := decide_eq_true c10
        clear c10
        by_cases c11 : x19_2 < (l0_0.length : Int)
        ·rw [if_pos c11] at H
         have c11b0 : decide (x19_2 < (l0_0.length : Int)) = true := decide_eq_true c11
         clear c11
         by_cases c12 : (wrap64 (x3_2 + (((rd_T62 l0_0 x19_2).f0).length : Int))) > 100
         ·rw [if_pos c12] at H
          have c12b0 : decide (100 < (wrap64 (x3_2 + (((rd_T62 l0_0 x19_2).f0).length : Int)))) = true := decide_eq_true c12
          clear c12
          obtain rfl := Option.some.inj H
          have p187 : 0 ≤ (x19_2 : Int) := of_decide_eq_true Z6
          have q187 : x19_2 < (l0_0.length : Int) := of_decide_eq_true Z6
          obtain ⟨ad187, A187_0, c187_0, e187, hx187_0, hx187_1, hx187_2, hl187_0, hi187_0⟩ := at_T62 HR0_0.out x19_2 p187 q187
          cases e187
          replace hx187_0 := (HB.out.cell (World.block_lt_of_cell? w _ hx187_0)).trans hx187_0
          replace hx187_1 := (HB.out.cell (World.block_lt_of_cell? w _ hx187_1)).trans hx187_1
          replace hx187_2 := (HB.out.cell (World.block_lt_of_cell? w _ hx187_2)).trans hx187_2
          have HR187_0 := Aside0.mk hi187_0
          have HC187_0 := Aside0.mk hl187_0
          clear hi187_0 hl187_0
          replace p187 := eq_true p187
          replace q187 := eq_true q187
          go_wp2_with (first | ((with_reducible refine gate_dst (N := 5) rfl ?_); (try (refine gate_guard (by rfl) ?_; dsimp only)); refine box_event ?hg (N := 5) ?hd (cs := #[.slice none 0 0, .bool false, .int .i64 0]) (t := 62) ?hr ?_; (case hd => rfl); (case hg => rfl); (case hr => exact Z18); intro gb188 hg w13 hbox hb; have n0_ := Aside0.mk (blk_below (g := gb186) (o := .cells #[.slice (some ad187) l0_0.length c0_0] 55 (0, 0)) Z40 hb); have n1_ := Aside0.mk (below_step Z29 hb); have n2_ := Aside0.mk (hbox); have n3_ := Aside0.mk ((by rw [hg]; exact (below_size Z29) : w.heap.size ≤ gb188)); have n4_ := Aside0.mk ((by rw [hg]; exact (below_size Z29) : w.heap.size ≤ gb188)); have n5_ := Aside0.mk ((by rw [hg]; exact Nat.ne_of_lt (blk_lt (g := gb186) (o := .cells #[.slice (some ad187) l0_0.length c0_0] 55 (0, 0)) Z40) : gb186 ≠ gb188)); have n6_ := Aside0.mk ((by rw [hg]; exact Nat.ne_of_gt (blk_lt (g := gb186) (o := .cells #[.slice (some ad187) l0_0.length c0_0] 55 (0, 0)) Z40) : gb188 ≠ gb186)); clear BK186; clear HB; have BK186 := n0_; have HB := n1_; have BK188 := n2_; have GW188 := n3_; have GE188 := n4_; have NB186_188 := n5_; have NB188_186 := n6_; clear n0_ n1_ n2_ n3_ n4_ n5_ n6_; clear hb hbox hg; have hnb14 := NB188_186.out; have hnc14 := NB186_188.out; have hcz15_0 : w13.cell? ⟨gb188, 0, none⟩ = some (.slice none 0 0) := (blk_cell BK188.out 0).trans rfl; have hcz15_1 : w13.cell? ⟨gb188, 1, none⟩ = some (.bool false) := (blk_cell BK188.out 1).trans rfl; have hcz15_2 : w13.cell? ⟨gb188, 2, none⟩ = some (.int .i64 0) := (blk_cell BK188.out 2).trans rfl; have hfz15_0 := blk_frozen BK188.out 0; have hfz15_1 := blk_frozen BK188.out 1; have hfz15_2 := blk_frozen BK188.out 2))
          go_ret
          exact ⟨by first | rfl | (simp [errW_none, errW_some] <;> rfl) | (simp [*, errW_none, errW_some] <;> rfl), by repeat (first | (with_reducible first | exact HB.out | apply below_alloc | apply pw_below_drewN | apply below_drew1 | refine below_set ?_ GE186.out | refine below_set ?_ GE188.out) | exact HB.out)⟩
         ·rw [if_neg c12] at H
          have c12b0 : decide (100 < (wrap64 (x3_2 + (((rd_T62 l0_0 x19_2).f0).length : Int)))) = false := decide_eq_false c12
          clear c12
          have H' := Aside0.mk H
          clear H
          have p187 : 0 ≤ (x19_2 : Int) := of_decide_eq_true Z6
          have q187 : x19_2 < (l0_0.length : Int) := of_decide_eq_true Z6
          obtain ⟨ad187, A187_0, c187_0, e187, hx187_0, hx187_1, hx187_2, hl187_0, hi187_0⟩ := at_T62 HR0_0.out x19_2 p187 q187
          cases e187
          replace hx187_0 := (HB.out.cell (World.block_lt_of_cell? w _ hx187_0)).trans hx187_0
          replace hx187_1 := (HB.out.cell (World.block_lt_of_cell? w _ hx187_1)).trans hx187_1
          replace hx187_2 := (HB.out.cell (World.block_lt_of_cell? w _ hx187_2)).trans hx187_2
          have HR187_0 := Aside0.mk hi187_0
          have HC187_0 := Aside0.mk hl187_0
          clear hi187_0 hl187_0
          replace p187 := eq_true p187
          replace q187 := eq_true q187
          go_wp2_with (first | ((with_reducible refine gate_dst (N := 5) rfl ?_); (try (refine gate_guard (by rfl) ?_; dsimp only)); refine box_event ?hg (N := 5) ?hd (cs := #[.slice none 0 0, .bool false, .int .i64 0]) (t := 62) ?hr ?_; (case hd => rfl); (case hg => rfl); (case hr => exact Z18); intro gb188 hg w16 hbox hb; have n0_ := Aside0.mk (blk_below (g := gb186) (o := .cells #[.slice (some ad187) l0_0.length c0_0] 55 (0, 0)) Z40 hb); have n1_ := Aside0.mk (below_step Z29 hb); have n2_ := Aside0.mk (hbox); have n3_ := Aside0.mk ((by rw [hg]; exact (below_size Z29) : w.heap.size ≤ gb188)); have n4_ := Aside0.mk ((by rw [hg]; exact (below_size Z29) : w.heap.size ≤ gb188)); have n5_ := Aside0.mk ((by rw [hg]; exact Nat.ne_of_lt (blk_lt (g := gb186) (o := .cells #[.slice (some ad187) l0_0.length c0_0] 55 (0, 0)) Z40) : gb186 ≠ gb188)); have n6_ := Aside0.mk ((by rw [hg]; exact Nat.ne_of_gt (blk_lt (g := gb186) (o := .cells #[.slice (some ad187) l0_0.length c0_0] 55 (0, 0)) Z40) : gb188 ≠ gb186)); clear BK186; clear HB; have BK186 := n0_; have HB := n1_; have BK188 := n2_; have GW188 := n3_; have GE188 := n4_; have NB186_188 := n5_; have NB188_186 := n6_; clear n0_ n1_ n2_ n3_ n4_ n5_ n6_; clear hb hbox hg; have hnb17 := NB188_186.out; have hnc17 := NB186_188.out; have hcz18_0 : w16.cell? ⟨gb188, 0, none⟩ = some (.slice none 0 0) := (blk_cell BK188.out 0).trans rfl; have hcz18_1 : w16.cell? ⟨gb188, 1, none⟩ = some (.bool false) := (blk_cell BK188.out 1).trans rfl; have hcz18_2 : w16.cell? ⟨gb188, 2, none⟩ = some (.int .i64 0) := (blk_cell BK188.out 2).trans rfl; have hfz18_0 := blk_frozen BK188.out 0; have hfz18_1 := blk_frozen BK188.out 1; have hfz18_2 := blk_frozen BK188.out 2))
          go_roundg k2
          case measure => have := HJ1.out; have := HK2.out; omega
          case rel => exact ⟨(wrap64 (x3_2 + (((rd_T62 l0_0 x19_2).f0).length : Int))), (wrap64 (x19_2 + 1)), Z5, Z5, H', ⟨by have := HJ1.out; have := HK2.out; omega⟩, ⟨by (with_reducible repeat (first | refine blk_drewN ?_ _ | refine blk_drew ?_ | refine blk_alloc ?_ _)); refine blk_far ?_ NB186_188.out _; (with_reducible repeat (first | refine blk_drewN ?_ _ | refine blk_drew ?_ | refine blk_alloc ?_ _)); refine blk_far ?_ NB186_188.out _; (with_reducible repeat (first | refine blk_drewN ?_ _ | refine blk_drew ?_ | refine blk_alloc ?_ _)); refine blk_far ?_ NB186_188.out _; (with_reducible repeat (first | refine blk_drewN ?_ _ | refine blk_drew ?_ | refine blk_alloc ?_ _)); exact BK186.out⟩, ⟨by repeat (first | (with_reducible first | exact HB.out | apply below_alloc | apply pw_below_drewN | apply below_drew1 | refine below_set ?_ GE186.out | refine below_set ?_ GE188.out) | exact HB.out)⟩⟩
        ·rw [if_neg c11] at H
         exact Z33
       ·rw [if_neg c10] at H
        exact Z33
      ·rw [if_neg c9] at H
       have c9b0 : decide (x19_2 < (l0_0.length : Int)) = false := decide_eq_false c9
       clear c9
       replace H := Option.bind_eq_some_iff.mp H
       obtain ⟨t189, A190, H⟩ := H
       replace H : (some (decide (t189 < 0))) = some r := H
       have A19 := Aside0.mk A190
       clear A190
       obtain rfl := Option.some.inj H
       have hcz20_0 : wr.cell? ⟨gb186, 0, none⟩ = some (.slice A0_0 l0_0.length c0_0) := (blk_cell BK186.out 0).trans rfl
       have hfz20_0 := blk_frozen BK186.out 0
       go_wp2_with (first | ((with_reducible refine gate_callee (f := 60) rfl ?_); refine goesL_ (some 32) rfl rfl Tryd.func60 (by kernel_rfl) rfl #[.agg #[.slice A0_0 l0_0.length c0_0]] rfl Z3 ?_; (with_reducible refine (pattern_Pattern_wrong.calls _ _ l0_0 t189 _ ?side3 ?side1 ?side2 A19.out).mono ?_); (case side1 => exact Z7); (case side2 => exact Z39); (case side3 => exact GL.below HGL.out Z29); rintro e w21 ⟨rfl, hb⟩; refine ⟨_, rfl, ?_⟩; have n0_ := Aside0.mk (blk_below (g := gb186) (o := .cells #[.slice A0_0 l0_0.length c0_0] 55 (0, 0)) Z40 hb); have n1_ := Aside0.mk (below_step Z29 hb); clear BK186; clear HB; have BK186 := n0_; have HB := n1_; clear n0_ n1_; (try clear hb); (try clear hb2); (try clear hk); (try clear hi)))
       go_ret
       exact Z55
mutual
def tabardlaw13_small.l0 : Nat → Int → Int → List (S62) → Option (Bool)
 | 0, _, _, _ => none
 | k + 1, x3, x4, x191000 => if x4 < (x191000.length : Int) then (if 0 ≤ x4 then (if (((rd_T62 x191000 x4).f0).length : Int) > 300 then (some false) else (tabardlaw13_small.l1 k x3 x4 0 x191000)) else (none)) else (some (decide (x3 ≤ 600)))
def tabardlaw13_small.l1 : Nat → Int → Int → Int → List (S62) → Option (Bool)
 | 0, _, _, _, _ => none
 | k + 1, x3, x4, x5, x191000 => if 0 ≤ x4 then (if x4 < (x191000.length : Int) then (if x5 < (((rd_T62 x191000 x4).f0).length : Int) then (if 0 ≤ x5 then (if (((rd_T88 ((rd_T62 x191000 x4).f0) x5).f1).size : Int) > 100 then (some false) else (tabardlaw13_small.l1 k (wrap64 (x3 + 1)) x4 (wrap64 (x5 + 1)) x191000)) else (none)) else (tabardlaw13_small.l0 k x3 (wrap64 (x4 + 1)) x191000)) else (none)) else (none)
end
def tabardlaw13_small.f (k : Nat) (l0_0 : List (S62)) : Option (Bool) := if (l0_0.length : Int) > 8 then (some false) else (tabardlaw13_small.l0 k 0 0 l0_0)
theorem tabardlaw13_small.mono_l : ∀ k, (∀ y0 y1 y2, LeO (tabardlaw13_small.l0 k y0 y1 y2) (tabardlaw13_small.l0 (k + 1) y0 y1 y2)) ∧ (∀ y0 y1 y2 y3, LeO (tabardlaw13_small.l1 k y0 y1 y2 y3) (tabardlaw13_small.l1 (k + 1) y0 y1 y2 y3))
 | 0 => ⟨fun _ _ _ r h => by simp [tabardlaw13_small.l0] at h, fun _ _ _ _ r h => by simp [tabardlaw13_small.l1] at h⟩
 | k + 1 => by
  obtain ⟨ih0, ih1⟩ := tabardlaw13_small.mono_l k
  refine ⟨?_, ?_⟩
  ·intro y0 y1 y2
   unfold tabardlaw13_small.l0
   repeat' first
   | (with_reducible exact ih0 _ _ _)
   | (with_reducible exact ih1 _ _ _ _)
   | (with_reducible exact LeO.refl _)
   | (with_reducible exact LeO.none _)
   | (with_reducible refine LeO.ite ?_ ?_)
   | (with_reducible refine LeO.bind ?_ (fun _ => ?_))
   | exact ih0 _ _ _
   | exact ih1 _ _ _ _
   | exact LeO.none _
   | refine LeO.ite ?_ ?_
   | refine LeO.bind ?_ (fun _ => ?_)
  ·intro y0 y1 y2 y3
   unfold tabardlaw13_small.l1
   repeat' first
   | (with_reducible exact ih0 _ _ _)
   | (with_reducible exact ih1 _ _ _ _)
   | (with_reducible exact LeO.refl _)
   | (with_reducible exact LeO.none _)
   | (with_reducible refine LeO.ite ?_ ?_)
   | (with_reducible refine LeO.bind ?_ (fun _ => ?_))
   | exact ih0 _ _ _
   | exact ih1 _ _ _ _
   | exact LeO.none _
   | refine LeO.ite ?_ ?_
   | refine LeO.bind ?_ (fun _ => ?_)
theorem tabardlaw13_small.mono : ∀ a0 k, LeO (tabardlaw13_small.f k a0) (tabardlaw13_small.f (k + 1) a0) := by
 intro a0 k
 obtain ⟨ih0, ih1⟩ := tabardlaw13_small.mono_l k
 unfold tabardlaw13_small.f
 repeat' first
   | (with_reducible exact ih0 _ _ _)
   | (with_reducible exact ih1 _ _ _ _)
   | (with_reducible exact LeO.refl _)
   | (with_reducible exact LeO.none _)
   | (with_reducible refine LeO.ite ?_ ?_)
   | (with_reducible refine LeO.bind ?_ (fun _ => ?_))
   | exact ih0 _ _ _
   | exact ih1 _ _ _ _
   | exact LeO.none _
   | refine LeO.ite ?_ ?_
   | refine LeO.bind ?_ (fun _ => ?_)
set_option maxHeartbeats 8000000 in
set_option maxRecDepth 100000 in
theorem tabardlaw13_small.calls (k : Nat) (A0_0 : Option Addr) (c0_0 : Nat) (l0_0 : List (S62)) (r : Bool) (w : World) (hr0_0 : Kd.C k62 w A0_0 l0_0.length l0_0) (hc0_0 : l0_0.length ≤ c0_0) (h : tabardlaw13_small.f k l0_0 = some r) :
  Calls Tryd.prog 29 #[.agg #[.slice A0_0 l0_0.length c0_0]] w fun e w' => e = .returned (.bool r) ∧ Below w.heap.size w w' := by
 have hu55 := Tryd.underlying55
 have HR0_0 := Aside0.mk hr0_0
 have HC0_0 := Aside0.mk hc0_0
 clear hr0_0 hc0_0
 have HB := Aside0.mk (Below.refl w.heap.size w)
 have H : (if (l0_0.length : Int) > 8 then (some false) else (tabardlaw13_small.l0 k 0 0 l0_0)) = some r := h
 clear h
 by_cases c2 : (l0_0.length : Int) > 8
 ·rw [if_pos c2] at H
  have c2b0 : decide (8 < (l0_0.length : Int)) = true := decide_eq_true c2
  have c2b1 : decide (8 < l0_0.length) = true := decide_eq_true (by omega)
  clear c2
  obtain rfl := Option.some.inj H
  go_enter Tryd.func29, Tryd.ntmps29
  go_wp2_with (first | ((with_reducible refine gate_dst (N := 1) rfl ?_); refine box_event ?hg (N := 1) ?hd (cs := #[.slice A0_0 l0_0.length c0_0]) (t := 55) ?hr ?_; (case hd => rfl); (case hg => rfl); (case hr => exact Z18); intro gb190 hg w3 hbox hb; have n0_ := Aside0.mk (below_step Z2 hb); have n1_ := Aside0.mk (hbox); have n2_ := Aside0.mk ((by rw [hg]; exact (below_size Z2) : w.heap.size ≤ gb190)); have n3_ := Aside0.mk ((by rw [hg]; exact (below_size Z2) : w.heap.size ≤ gb190)); clear HB; have HB := n0_; have BK190 := n1_; have GW190 := n2_; have GE190 := n3_; clear n0_ n1_ n2_ n3_; clear hb hbox hg; have hcz4_0 : w3.cell? ⟨gb190, 0, none⟩ = some (.slice A0_0 l0_0.length c0_0) := (blk_cell BK190.out 0).trans rfl; have hfz4_0 := blk_frozen BK190.out 0))
  go_ret
  exact Z37
 ·rw [if_neg c2] at H
  have c2b0 : decide (8 < (l0_0.length : Int)) = false := decide_eq_false c2
  have c2b1 : decide (8 < l0_0.length) = false := decide_eq_false (by omega)
  clear c2
  have H' := Aside0.mk H
  clear H
  go_enter Tryd.func29, Tryd.ntmps29
  go_wp2_with (first | ((with_reducible refine gate_dst (N := 1) rfl ?_); refine box_event ?hg (N := 1) ?hd (cs := #[.slice A0_0 l0_0.length c0_0]) (t := 55) ?hr ?_; (case hd => rfl); (case hg => rfl); (case hr => exact Z18); intro gb190 hg w5 hbox hb; have n0_ := Aside0.mk (below_step Z2 hb); have n1_ := Aside0.mk (hbox); have n2_ := Aside0.mk ((by rw [hg]; exact (below_size Z2) : w.heap.size ≤ gb190)); have n3_ := Aside0.mk ((by rw [hg]; exact (below_size Z2) : w.heap.size ≤ gb190)); clear HB; have HB := n0_; have BK190 := n1_; have GW190 := n2_; have GE190 := n3_; clear n0_ n1_ n2_ n3_; clear hb hbox hg; have hcz6_0 : w5.cell? ⟨gb190, 0, none⟩ = some (.slice A0_0 l0_0.length c0_0) := (blk_cell BK190.out 0).trans rfl; have hfz6_0 := blk_frozen BK190.out 0))
  go_loopg [3, 4] k (fun kq v3 v4 w' => ∃ (x3_1 : Int) (x4_1 : Int), v3 = .int .i64 x3_1 ∧ v4 = .int .i64 x4_1 ∧ Aside0 (tabardlaw13_small.l0 kq x3_1 x4_1 l0_0 = some r) ∧ Aside0 (kq ≤ k) ∧ Aside0 (w'.heap[gb190]? = some (.cells #[(.slice A0_0 l0_0.length c0_0)] 55 (0, 0))) ∧ Aside0 (Below w.heap.size w w'))
  case atStart => exact ⟨(0), (0), Z5, Z5, H', ⟨Nat.le_refl _⟩, ⟨by (with_reducible repeat (first | refine blk_drewN ?_ _ | refine blk_drew ?_ | refine blk_alloc ?_ _)); exact BK190.out⟩, ⟨by repeat (first | (with_reducible first | exact HB.out | apply below_alloc | apply pw_below_drewN | apply below_drew1 | refine below_set ?_ GE190.out) | exact HB.out)⟩⟩
  case round =>
   clear H'
   try clear c2
   try clear c2b0
   try clear c2b1
   try clear p2
   try clear hcz4_0
   try clear hcz6_0
   try clear hfz4_0
   try clear hfz6_0
   obtain ⟨x3_1, x4_1, rfl, rfl, HA, HK1, BK190, HB⟩ := hrel
   cases gk with
   | zero => exact absurd HA.out (by simp [tabardlaw13_small.l0])
   | succ k1 =>
    have H := HA.out
    clear HA
    simp only [tabardlaw13_small.l0] at H
    by_cases c7 : x4_1 < (l0_0.length : Int)
    ·rw [if_pos c7] at H
     have c7b0 : decide (x4_1 < (l0_0.length : Int)) = true := decide_eq_true c7
     clear c7
     by_cases c8 : 0 ≤ x4_1
     ·rw [if_pos c8] at H
      have c8b0 : decide (0 ≤ x4_1) = true := decide_eq_true c8
      clear c8
      by_cases c9 : (((rd_T62 l0_0 x4_1).f0).length : Int) > 300
      ·rw [if_pos c9] at H
       have c9b0 : decide (300 < (((rd_T62 l0_0 x4_1).f0).length : Int)) = true := decide_eq_true c9
       have c9b1 : decide (300 < ((rd_T62 l0_0 x4_1).f0).length) = true := decide_eq_true (by omega)
       clear c9
       obtain rfl := Option.some.inj H
       have hcz10_0 : wr.cell? ⟨gb190, 0, none⟩ = some (.slice A0_0 l0_0.length c0_0) := (blk_cell BK190.out 0).trans rfl
       have hfz10_0 := blk_frozen BK190.out 0
       have p191 : 0 ≤ (x4_1 : Int) := of_decide_eq_true Z6
       have q191 : x4_1 < (l0_0.length : Int) := of_decide_eq_true Z6
       obtain ⟨ad191, A191_0, c191_0, e191, hx191_0, hx191_1, hx191_2, hl191_0, hi191_0⟩ := at_T62 HR0_0.out x4_1 p191 q191
       cases e191
       replace hx191_0 := (HB.out.cell (World.block_lt_of_cell? w _ hx191_0)).trans hx191_0
       replace hx191_1 := (HB.out.cell (World.block_lt_of_cell? w _ hx191_1)).trans hx191_1
       replace hx191_2 := (HB.out.cell (World.block_lt_of_cell? w _ hx191_2)).trans hx191_2
       have HR191_0 := Aside0.mk hi191_0
       have HC191_0 := Aside0.mk hl191_0
       clear hi191_0 hl191_0
       replace p191 := eq_true p191
       replace q191 := eq_true q191
       go_wp2
       go_ret
       exact Z37
      ·rw [if_neg c9] at H
       have c9b0 : decide (300 < (((rd_T62 l0_0 x4_1).f0).length : Int)) = false := decide_eq_false c9
       have c9b1 : decide (300 < ((rd_T62 l0_0 x4_1).f0).length) = false := decide_eq_false (by omega)
       clear c9
       have H' := Aside0.mk H
       clear H
       have hcz11_0 : wr.cell? ⟨gb190, 0, none⟩ = some (.slice A0_0 l0_0.length c0_0) := (blk_cell BK190.out 0).trans rfl
       have hfz11_0 := blk_frozen BK190.out 0
       have p191 : 0 ≤ (x4_1 : Int) := of_decide_eq_true Z6
       have q191 : x4_1 < (l0_0.length : Int) := of_decide_eq_true Z6
       obtain ⟨ad191, A191_0, c191_0, e191, hx191_0, hx191_1, hx191_2, hl191_0, hi191_0⟩ := at_T62 HR0_0.out x4_1 p191 q191
       cases e191
       replace hx191_0 := (HB.out.cell (World.block_lt_of_cell? w _ hx191_0)).trans hx191_0
       replace hx191_1 := (HB.out.cell (World.block_lt_of_cell? w _ hx191_1)).trans hx191_1
       replace hx191_2 := (HB.out.cell (World.block_lt_of_cell? w _ hx191_2)).trans hx191_2
       have HR191_0 := Aside0.mk hi191_0
       have HC191_0 := Aside0.mk hl191_0
       clear hi191_0 hl191_0
       replace p191 := eq_true p191
       replace q191 := eq_true q191
       go_wp2
       go_loopg [3, 5] k1 (fun kq v3 v5 w' => ∃ (x3_2 : Int) (x5_2 : Int), v3 = .int .i64 x3_2 ∧ v5 = .int .i64 x5_2 ∧ Aside0 (tabardlaw13_small.l1 kq x3_2 x4_1 x5_2 l0_0 = some r) ∧ Aside0 (kq ≤ k1) ∧ Aside0 (w'.heap[gb190]? = some (.cells #[(.slice (some ad191) l0_0.length c0_0)] 55 (0, 0))) ∧ Aside0 (Below w.heap.size w w'))
       case atStart => exact ⟨(x3_1), (0), Z5, Z5, H', ⟨Nat.le_refl _⟩, ⟨by (with_reducible repeat (first | refine blk_drewN ?_ _ | refine blk_drew ?_ | refine blk_alloc ?_ _)); exact BK190.out⟩, ⟨by repeat (first | (with_reducible first | exact HB.out | apply below_alloc | apply pw_below_drewN | apply below_drew1 | refine below_set ?_ GE190.out) | exact HB.out)⟩⟩
       case round =>
        clear H'
        try clear c1
        try clear p1
        try clear q1
        try clear hx1
        try clear c2
        try clear c2b0
        try clear c2b1
        try clear p2
        try clear c7
        try clear c7b0
        try clear c8
        try clear c8b0
        try clear c9
        try clear c9b0
        try clear c9b1
        try clear hcz10_0
        try clear hcz11_0
        try clear hcz4_0
        try clear hcz6_0
        try clear hfz10_0
        try clear hfz11_0
        try clear hfz4_0
        try clear hfz6_0
        try clear hx191_0
        try clear hx191_1
        try clear hx191_2
        try clear p191
        try clear p2
        try clear q191
        obtain ⟨x3_2, x5_2, rfl, rfl, HA, HK2, BK190, HB⟩ := hrel
        cases gk with
        | zero => exact absurd HA.out (by simp [tabardlaw13_small.l1])
        | succ k2 =>
         have H := HA.out
         clear HA
         simp only [tabardlaw13_small.l1] at H
         by_cases c12 : 0 ≤ x4_1
         ·rw [if_pos c12] at H
          have c12b0 : decide (0 ≤ x4_1) = true := decide_eq_true c12
          clear c12
          by_cases c13 : x4_1 < (l0_0.length : Int)
          ·rw [if_pos c13] at H
           have c13b0 : decide (x4_1 < (l0_0.length : Int)) = true := decide_eq_true c13
           clear c13
           by_cases c14 : x5_2 < (((rd_T62 l0_0 x4_1).f0).length : Int)
           ·rw [if_pos c14] at H
            have c14b0 : decide (x5_2 < (((rd_T62 l0_0 x4_1).f0).length : Int)) = true := decide_eq_true c14
            clear c14
            by_cases c15 : 0 ≤ x5_2
            ·rw [if_pos c15] at H
             have c15b0 : decide (0 ≤ x5_2) = true := decide_eq_true c15
             clear c15
             by_cases c16 : (((rd_T88 ((rd_T62 l0_0 x4_1).f0) x5_2).f1).size : Int) > 100
             ·rw [if_pos c16] at H
              have c16b0 : decide (100 < (((rd_T88 ((rd_T62 l0_0 x4_1).f0) x5_2).f1).size : Int)) = true := decide_eq_true c16
              have c16b1 : decide (100 < ((rd_T88 ((rd_T62 l0_0 x4_1).f0) x5_2).f1).size) = true := decide_eq_true (by omega)
              clear c16
              obtain rfl := Option.some.inj H
              have hcz17_0 : wr.cell? ⟨gb190, 0, none⟩ = some (.slice (some ad191) l0_0.length c0_0) := (blk_cell BK190.out 0).trans rfl
              have hfz17_0 := blk_frozen BK190.out 0
              have p192 : 0 ≤ (x4_1 : Int) := of_decide_eq_true Z6
              have q192 : x4_1 < (l0_0.length : Int) := of_decide_eq_true Z6
              obtain ⟨ad192, A192_0, c192_0, e192, hx192_0, hx192_1, hx192_2, hl192_0, hi192_0⟩ := at_T62 HR0_0.out x4_1 p192 q192
              obtain rfl : ad191 = ad192 := (by injection e192)
              replace hx192_0 := (HB.out.cell (World.block_lt_of_cell? w _ hx192_0)).trans hx192_0
              replace hx192_1 := (HB.out.cell (World.block_lt_of_cell? w _ hx192_1)).trans hx192_1
              replace hx192_2 := (HB.out.cell (World.block_lt_of_cell? w _ hx192_2)).trans hx192_2
              have HR192_0 := Aside0.mk hi192_0
              have HC192_0 := Aside0.mk hl192_0
              clear hi192_0 hl192_0
              replace p192 := eq_true p192
              replace q192 := eq_true q192
              have p193 : 0 ≤ (x4_1 : Int) := of_decide_eq_true Z6
              have q193 : x4_1 < (l0_0.length : Int) := of_decide_eq_true Z6
              obtain ⟨ad193, A193_0, c193_0, e193, hx193_0, hx193_1, hx193_2, hl193_0, hi193_0⟩ := at_T62 HR0_0.out x4_1 p193 q193
              obtain rfl : ad191 = ad193 := (by injection e193)
              replace hx193_0 := (HB.out.cell (World.block_lt_of_cell? w _ hx193_0)).trans hx193_0
              replace hx193_1 := (HB.out.cell (World.block_lt_of_cell? w _ hx193_1)).trans hx193_1
              replace hx193_2 := (HB.out.cell (World.block_lt_of_cell? w _ hx193_2)).trans hx193_2
              have HR193_0 := Aside0.mk hi193_0
              have HC193_0 := Aside0.mk hl193_0
              clear hi193_0 hl193_0
              replace p193 := eq_true p193
              replace q193 := eq_true q193
              have ea_ := Option.some.inj (hx192_0.symm.trans hx193_0)
              injection ea_ with ea_ en_ ec_
              subst ea_
              subst ec_
              clear en_
              have p194 : 0 ≤ (x5_2 : Int) := of_decide_eq_true Z6
              have q194 : x5_2 < (((rd_T62 l0_0 x4_1).f0).length : Int) := of_decide_eq_true Z6
              obtain ⟨ad194, e194, hx194_0, hx194_1⟩ := at_T88 HR193_0.out x5_2 p194 q194
              cases e194
              replace hx194_0 := (HB.out.cell (World.block_lt_of_cell? w _ hx194_0)).trans hx194_0
              replace hx194_1 := (HB.out.cell (World.block_lt_of_cell? w _ hx194_1)).trans hx194_1
              replace p194 := eq_true p194
              replace q194 := eq_true q194
              go_wp2
              go_ret
              exact Z37
             ·rw [if_neg c16] at H
              have c16b0 : decide (100 < (((rd_T88 ((rd_T62 l0_0 x4_1).f0) x5_2).f1).size : Int)) = false := decide_eq_false c16
              have c16b1 : decide (100 < ((rd_T88 ((rd_T62 l0_0 x4_1).f0) x5_2).f1).size) = false := decide_eq_false (by omega)
              clear c16
              have H' := Aside0.mk H
              clear H
              have hcz18_0 : wr.cell? ⟨gb190, 0, none⟩ = some (.slice (some ad191) l0_0.length c0_0) := (blk_cell BK190.out 0).trans rfl
              have hfz18_0 := blk_frozen BK190.out 0
              have p192 : 0 ≤ (x4_1 : Int) := of_decide_eq_true Z6
              have q192 : x4_1 < (l0_0.length : Int) := of_decide_eq_true Z6
              obtain ⟨ad192, A192_0, c192_0, e192, hx192_0, hx192_1, hx192_2, hl192_0, hi192_0⟩ := at_T62 HR0_0.out x4_1 p192 q192
              obtain rfl : ad191 = ad192 := (by injection e192)
              replace hx192_0 := (HB.out.cell (World.block_lt_of_cell? w _ hx192_0)).trans hx192_0
              replace hx192_1 := (HB.out.cell (World.block_lt_of_cell? w _ hx192_1)).trans hx192_1
              replace hx192_2 := (HB.out.cell (World.block_lt_of_cell? w _ hx192_2)).trans hx192_2
              have HR192_0 := Aside0.mk hi192_0
              have HC192_0 := Aside0.mk hl192_0
              clear hi192_0 hl192_0
              replace p192 := eq_true p192
              replace q192 := eq_true q192
              have p193 : 0 ≤ (x4_1 : Int) := of_decide_eq_true Z6
              have q193 : x4_1 < (l0_0.length : Int) := of_decide_eq_true Z6
              obtain ⟨ad193, A193_0, c193_0, e193, hx193_0, hx193_1, hx193_2, hl193_0, hi193_0⟩ := at_T62 HR0_0.out x4_1 p193 q193
              obtain rfl : ad191 = ad193 := (by injection e193)
              replace hx193_0 := (HB.out.cell (World.block_lt_of_cell? w _ hx193_0)).trans hx193_0
              replace hx193_1 := (HB.out.cell (World.block_lt_of_cell? w _ hx193_1)).trans hx193_1
              replace hx193_2 := (HB.out.cell (World.block_lt_of_cell? w _ hx193_2)).trans hx193_2
              have HR193_0 := Aside0.mk hi193_0
              have HC193_0 := Aside0.mk hl193_0
              clear hi193_0 hl193_0
              replace p193 := eq_true p193
              replace q193 := eq_true q193
              have ea_ := Option.some.inj (hx192_0.symm.trans hx193_0)
              injection ea_ with ea_ en_ ec_
              subst ea_
              subst ec_
              clear en_
              have p194 : 0 ≤ (x5_2 : Int) := of_decide_eq_true Z6
              have q194 : x5_2 < (((rd_T62 l0_0 x4_1).f0).length : Int) := of_decide_eq_true Z6
              obtain ⟨ad194, e194, hx194_0, hx194_1⟩ := at_T88 HR193_0.out x5_2 p194 q194
              cases e194
              replace hx194_0 := (HB.out.cell (World.block_lt_of_cell? w _ hx194_0)).trans hx194_0
              replace hx194_1 := (HB.out.cell (World.block_lt_of_cell? w _ hx194_1)).trans hx194_1
              replace p194 := eq_true p194
              replace q194 := eq_true q194
              go_wp2
              go_roundg k2
              case measure => have := HK1.out; have := HK2.out; omega
              case rel => exact ⟨(wrap64 (x3_2 + 1)), (wrap64 (x5_2 + 1)), Z5, Z5, H', ⟨by have := HK1.out; have := HK2.out; omega⟩, ⟨by (with_reducible repeat (first | refine blk_drewN ?_ _ | refine blk_drew ?_ | refine blk_alloc ?_ _)); exact BK190.out⟩, ⟨by repeat (first | (with_reducible first | exact HB.out | apply below_alloc | apply pw_below_drewN | apply below_drew1 | refine below_set ?_ GE190.out) | exact HB.out)⟩⟩
            ·rw [if_neg c15] at H
             exact Z33
           ·rw [if_neg c14] at H
            have c14b0 : decide (x5_2 < (((rd_T62 l0_0 x4_1).f0).length : Int)) = false := decide_eq_false c14
            clear c14
            have H' := Aside0.mk H
            clear H
            have hcz19_0 : wr.cell? ⟨gb190, 0, none⟩ = some (.slice (some ad191) l0_0.length c0_0) := (blk_cell BK190.out 0).trans rfl
            have hfz19_0 := blk_frozen BK190.out 0
            have p192 : 0 ≤ (x4_1 : Int) := of_decide_eq_true Z6
            have q192 : x4_1 < (l0_0.length : Int) := of_decide_eq_true Z6
            obtain ⟨ad192, A192_0, c192_0, e192, hx192_0, hx192_1, hx192_2, hl192_0, hi192_0⟩ := at_T62 HR0_0.out x4_1 p192 q192
            obtain rfl : ad191 = ad192 := (by injection e192)
            replace hx192_0 := (HB.out.cell (World.block_lt_of_cell? w _ hx192_0)).trans hx192_0
            replace hx192_1 := (HB.out.cell (World.block_lt_of_cell? w _ hx192_1)).trans hx192_1
            replace hx192_2 := (HB.out.cell (World.block_lt_of_cell? w _ hx192_2)).trans hx192_2
            have HR192_0 := Aside0.mk hi192_0
            have HC192_0 := Aside0.mk hl192_0
            clear hi192_0 hl192_0
            replace p192 := eq_true p192
            replace q192 := eq_true q192
            go_wp2
            go_roundg k2
            case measure => have := HK1.out; have := HK2.out; omega
            case rel => exact ⟨(x3_2), (wrap64 (x4_1 + 1)), Z5, Z5, H', ⟨by have := HK1.out; have := HK2.out; omega⟩, ⟨by (with_reducible repeat (first | refine blk_drewN ?_ _ | refine blk_drew ?_ | refine blk_alloc ?_ _)); exact BK190.out⟩, ⟨by repeat (first | (with_reducible first | exact HB.out | apply below_alloc | apply pw_below_drewN | apply below_drew1 | refine below_set ?_ GE190.out) | exact HB.out)⟩⟩
          ·rw [if_neg c13] at H
           exact Z33
         ·rw [if_neg c12] at H
          exact Z33
     ·rw [if_neg c8] at H
      exact Z33
    ·rw [if_neg c7] at H
     have c7b0 : decide (x4_1 < (l0_0.length : Int)) = false := decide_eq_false c7
     clear c7
     obtain rfl := Option.some.inj H
     have hcz20_0 : wr.cell? ⟨gb190, 0, none⟩ = some (.slice A0_0 l0_0.length c0_0) := (blk_cell BK190.out 0).trans rfl
     have hfz20_0 := blk_frozen BK190.out 0
     go_wp2
     go_ret
     exact Z37
end Go.Proofs.YtmbhjogohfcjgaaDoor.P
