-- Laid by wip/tools/xprint.py, a program of this session's, over the kit's print. Lean checks it.
import Derived.Test.YtmbhjogohfcjgaaDoorP0
namespace Go.Proofs.YtmbhjogohfcjgaaDoor.P
open Go.RowKit Go.Proofs.YtmbhjogohfcjgaaDoorW.PrintWords Go.Proofs.YtmbhjogohfcjgaaDoorW.PrintLast Go.Proofs.YtmbhjogohfcjgaaDoorW.PrintMore
attribute [local go_sem] max2_int min2_int max_two min_two max_three min_three max_four min_four   -- for this text's walks alone
set_option linter.unusedVariables false
set_option linter.unusedSimpArgs false
def tabardlaw13_section.l0 : Nat → List (S98) → Int → List (S88) → Bool → Int → Option ((List (S98)) × Bool × Int)
 | 0, _, _, _, _, _ => none
 | k + 1, x3, x4, x196000, x196001, x196002 => if x4 < (x196000.length : Int) then (if 0 ≤ x4 then (if x3.length < 5864062014805 then (tabardlaw13_section.l0 k (x3 ++ [(⟨(rd_T88 x196000 x4).f0, (rd_T88 x196000 x4).f1⟩ : S98)]) (wrap64 (x4 + 1)) x196000 x196001 x196002) else (none)) else (none)) else (some (x3, x196001, x196002))
def tabardlaw13_section.f (k : Nat) (l0_0 : List (S88)) (a0_1 : Bool) (a0_2 : Int) : Option ((List (S98)) × Bool × Int) := tabardlaw13_section.l0 k ([] : List (S98)) 0 l0_0 a0_1 a0_2
theorem tabardlaw13_section.mono_l : ∀ k, (∀ y0 y1 y2 y3 y4, LeO (tabardlaw13_section.l0 k y0 y1 y2 y3 y4) (tabardlaw13_section.l0 (k + 1) y0 y1 y2 y3 y4))
 | 0 => fun _ _ _ _ _ r h => by simp [tabardlaw13_section.l0] at h
 | k + 1 => by
  have ih0 := tabardlaw13_section.mono_l k
  ·intro y0 y1 y2 y3 y4
   unfold tabardlaw13_section.l0
   repeat' first
   | (with_reducible exact ih0 _ _ _ _ _)
   | (with_reducible exact LeO.refl _)
   | (with_reducible exact LeO.none _)
   | (with_reducible refine LeO.ite ?_ ?_)
   | (with_reducible refine LeO.bind ?_ (fun _ => ?_))
   | exact ih0 _ _ _ _ _
   | exact LeO.none _
   | refine LeO.ite ?_ ?_
   | refine LeO.bind ?_ (fun _ => ?_)
theorem tabardlaw13_section.mono : ∀ a0 a1 a2 k, LeO (tabardlaw13_section.f k a0 a1 a2) (tabardlaw13_section.f (k + 1) a0 a1 a2) := by
 intro a0 a1 a2 k
 have ih0 := tabardlaw13_section.mono_l k
 unfold tabardlaw13_section.f
 repeat' first
   | (with_reducible exact ih0 _ _ _ _ _)
   | (with_reducible exact LeO.refl _)
   | (with_reducible exact LeO.none _)
   | (with_reducible refine LeO.ite ?_ ?_)
   | (with_reducible refine LeO.bind ?_ (fun _ => ?_))
   | exact ih0 _ _ _ _ _
   | exact LeO.none _
   | refine LeO.ite ?_ ?_
   | refine LeO.bind ?_ (fun _ => ?_)
def tabardlaw13_section.T5 : Bool × List (List Nat × List Nat) := (true, [([], []), ([], []), ([1], [1]), ([], []), ([2, 3], [2, 3]), ([4], [4]), ([5], [5]), ([], []), ([7], [7]), ([], []), ([8, 9], [8, 9]), ([10], [10]), ([11], [11]), ([6, 12], [6, 12]), ([13], [13]), ([0, 14], [0, 14]), ([15, 15, 0, 1, 2, 3, 4, 5, 6, 7, 8, 9, 10, 11, 12, 13, 14, 15], [0, 15])])
def tabardlaw13_section.B5 : List Nat := [0, 0, 2, 0, 14, 30, 62, 0, 128, 0, 896, 1920, 3968, 8190, 16382, 32767, 65535]
theorem tabardlaw13_section.tab5 : rtab .any (opsOf Tryd.f50 5) = tabardlaw13_section.T5 := by kernel_rfl
theorem tabardlaw13_section.bits5 : waitsOk tabardlaw13_section.T5.2 tabardlaw13_section.B5 = true := by kernel_rfl
set_option maxHeartbeats 8000000 in
set_option maxRecDepth 100000 in
theorem tabardlaw13_section.calls (k : Nat) (A0_0 : Option Addr) (c0_0 : Nat) (l0_0 : List (S88)) (a0_1 : Bool) (a0_2 : Int) (r1 : List (S98)) (r2 : Bool) (r3 : Int) (w : World) (hr0_0 : Kd.C k88 w A0_0 l0_0.length l0_0) (hc0_0 : l0_0.length ≤ c0_0) (h : tabardlaw13_section.f k l0_0 a0_1 a0_2 = some (r1, r2, r3)) :
  Calls Tryd.prog 50 #[.agg #[.slice A0_0 l0_0.length c0_0, .bool a0_1, .int .i64 a0_2]] w fun e w' => ∃ v0_ : Value, e = .returned (.agg #[v0_, .bool r2, .int .i64 r3]) ∧ Kd.R k98 98 w' w.heap.size (fun _ => True) v0_ r1 ∧ Below w.heap.size w w' := by
 have hu62 := Tryd.underlying62
 have hu66 := Tryd.underlying66
 have hu98 := Tryd.underlying98
 have HR0_0 := Aside0.mk hr0_0
 have HC0_0 := Aside0.mk hc0_0
 clear hr0_0 hc0_0
 have HB := Aside0.mk (Below.refl w.heap.size w)
 have H : (tabardlaw13_section.l0 k ([] : List (S98)) 0 l0_0 a0_1 a0_2) = some (r1, r2, r3) := h
 clear h
 have H' := Aside0.mk H
 clear H
 go_enter Tryd.func50, Tryd.ntmps50
 go_wp2_with (first | ((with_reducible refine gate_dst (N := 1) rfl ?_); refine box_event ?hg (N := 1) ?hd (cs := #[.slice A0_0 l0_0.length c0_0, .bool a0_1, .int .i64 a0_2]) (t := 62) ?hr ?_; (case hd => rfl); (case hg => rfl); (case hr => exact Z18); intro gb195 hg w2 hbox hb; have n0_ := Aside0.mk (below_step Z2 hb); have n1_ := Aside0.mk (hbox); have n2_ := Aside0.mk ((by rw [hg]; exact (below_size Z2) : w.heap.size ≤ gb195)); have n3_ := Aside0.mk ((by rw [hg]; exact (below_size Z2) : w.heap.size ≤ gb195)); clear HB; have HB := n0_; have BK195 := n1_; have GW195 := n2_; have GE195 := n3_; clear n0_ n1_ n2_ n3_; clear hb hbox hg) | ((with_reducible refine gate_dst (N := 2) rfl ?_); refine box_event ?hg (N := 2) ?hd (cs := #[.slice none 0 0, .bool false, .int .i64 0]) (t := 66) ?hr ?_; (case hd => rfl); (case hg => rfl); (case hr => exact Z18); intro gb196 hg w3 hbox hb; have n0_ := Aside0.mk (blk_below (g := gb195) (o := .cells #[.slice A0_0 l0_0.length c0_0, .bool a0_1, .int .i64 a0_2] 62 (0, 0)) Z51 hb); have n1_ := Aside0.mk (below_step Z53 hb); have n2_ := Aside0.mk (hbox); have n3_ := Aside0.mk ((by rw [hg]; exact (below_size Z53) : w.heap.size ≤ gb196)); have n4_ := Aside0.mk ((by rw [hg]; exact (below_size Z53) : w.heap.size ≤ gb196)); have n5_ := Aside0.mk ((by rw [hg]; exact Nat.ne_of_lt (blk_lt (g := gb195) (o := .cells #[.slice A0_0 l0_0.length c0_0, .bool a0_1, .int .i64 a0_2] 62 (0, 0)) Z51) : gb195 ≠ gb196)); have n6_ := Aside0.mk ((by rw [hg]; exact Nat.ne_of_gt (blk_lt (g := gb195) (o := .cells #[.slice A0_0 l0_0.length c0_0, .bool a0_1, .int .i64 a0_2] 62 (0, 0)) Z51) : gb196 ≠ gb195)); clear BK195; clear HB; have BK195 := n0_; have HB := n1_; have BK196 := n2_; have GW196 := n3_; have GE196 := n4_; have NB195_196 := n5_; have NB196_195 := n6_; clear n0_ n1_ n2_ n3_ n4_ n5_ n6_; clear hb hbox hg))
 go_loopg [3, 4] k (fun kq v3 v4 w' => ∃ (x3_1 : List (S98)) (x4_1 : Int), v4 = .int .i64 x4_1 ∧ Aside0 (tabardlaw13_section.l0 kq x3_1 x4_1 l0_0 a0_1 a0_2 = some (r1, r2, r3)) ∧ Aside0 (kq ≤ k) ∧ Aside0 (Kd.R k98 98 w' w.heap.size (fun _ => True) v3 x3_1) ∧ Aside0 (w'.heap[gb195]? = some (.cells #[(.slice A0_0 l0_0.length c0_0), .bool a0_1, .int .i64 a0_2] 62 (0, 0))) ∧ Aside0 (w'.heap[gb196]? = some (.cells #[(.slice none 0 0), .bool false, .int .i64 0] 66 (0, 0))) ∧ Aside0 (Below w.heap.size w w'))
 case atStart => exact ⟨(([] : List (S98))), (0), Z5, H', ⟨Nat.le_refl _⟩, ⟨by first | exact Kd.R_nil _ _ _ _ _ | exact Kd.N_nil _ _ _ _ _ | exact Kd.V_nil _ _ _ _ _ | exact Kd.Q_nil _ _ _ _ _ | exact Kd.S_nil _ _ _ _ _⟩, ⟨by (with_reducible repeat (first | refine blk_drewN ?_ _ | refine blk_drew ?_ | refine blk_alloc ?_ _)); exact BK195.out⟩, ⟨by (with_reducible repeat (first | refine blk_drewN ?_ _ | refine blk_drew ?_ | refine blk_alloc ?_ _)); exact BK196.out⟩, ⟨by repeat (first | (with_reducible first | exact HB.out | apply below_alloc | apply pw_below_drewN | apply below_drew1 | refine below_set ?_ GE195.out | refine below_set ?_ GE196.out) | exact HB.out)⟩⟩
 case round =>
  clear H'
  try clear p2
  obtain ⟨x3_1, x4_1, rfl, HA, HK1, HO_3, BK195, BK196, HB⟩ := hrel
  cases gk with
  | zero => exact absurd HA.out (by simp [tabardlaw13_section.l0])
  | succ k1 =>
   have H := HA.out
   clear HA
   simp only [tabardlaw13_section.l0] at H
   by_cases c4 : x4_1 < (l0_0.length : Int)
   ·rw [if_pos c4] at H
    have c4b0 : decide (x4_1 < (l0_0.length : Int)) = true := decide_eq_true c4
    clear c4
    by_cases c5 : 0 ≤ x4_1
    ·rw [if_pos c5] at H
     have c5b0 : decide (0 ≤ x4_1) = true := decide_eq_true c5
     clear c5
     by_cases c6 : x3_1.length < 5864062014805
     ·rw [if_pos c6] at H
      have LMc6 := Aside0.mk c6
      clear c6
      obtain ⟨y199, hy199⟩ : ∃ y_ : List (S98), y_ = (x3_1 ++ [(⟨(rd_T88 l0_0 x4_1).f0, (rd_T88 l0_0 x4_1).f1⟩ : S98)]) := ⟨_, rfl⟩
      replace H : (tabardlaw13_section.l0 k1 y199 (wrap64 (x4_1 + 1)) l0_0 a0_1 a0_2) = some (r1, r2, r3) := by first | (rw [hy199]; with_reducible exact H) | (have H2_ := (Option.bind_some _ _).symm.trans H; rw [hy199]; with_reducible exact H2_) | (have H2_ := (Option.bind_some _ _).symm.trans H; with_reducible exact H2_) | with_reducible exact H | (rw [hy199]; exact H) | exact H
      have Ny199 := Aside0.mk hy199
      clear hy199
      have H' := Aside0.mk H
      clear H
      have hnb7 := NB195_196.out
      have hnc7 := NB196_195.out
      have hcz8_0 : wr.cell? ⟨gb195, 0, none⟩ = some (.slice A0_0 l0_0.length c0_0) := (blk_cell BK195.out 0).trans rfl
      have hcz8_1 : wr.cell? ⟨gb195, 1, none⟩ = some (.bool a0_1) := (blk_cell BK195.out 1).trans rfl
      have hcz8_2 : wr.cell? ⟨gb195, 2, none⟩ = some (.int .i64 a0_2) := (blk_cell BK195.out 2).trans rfl
      have hfz8_0 := blk_frozen BK195.out 0
      have hfz8_1 := blk_frozen BK195.out 1
      have hfz8_2 := blk_frozen BK195.out 2
      try go_wp2
      have n0_ := Aside0.mk (Kd.R_drew HO_3.out)
      have n1_ := Aside0.mk (blk_drew BK195.out)
      have n2_ := Aside0.mk (blk_drew BK196.out)
      have n3_ := Aside0.mk (below_drew1 HB.out)
      clear HO_3
      clear BK195
      clear BK196
      clear HB
      have HO_3 := n0_
      have BK195 := n1_
      have BK196 := n2_
      have HB := n3_
      clear n0_ n1_ n2_ n3_
      have p197 : 0 ≤ (x4_1 : Int) := of_decide_eq_true Z6
      have q197 : x4_1 < (l0_0.length : Int) := of_decide_eq_true Z6
      obtain ⟨ad197, e197, hx197_0, hx197_1⟩ := at_T88 HR0_0.out x4_1 p197 q197
      have hw197_1 := hx197_1
      have hw197_0 := hx197_0
      cases e197
      replace hx197_0 := (HB.out.cell (World.block_lt_of_cell? w _ hx197_0)).trans hx197_0
      replace hx197_1 := (HB.out.cell (World.block_lt_of_cell? w _ hx197_1)).trans hx197_1
      replace p197 := eq_true p197
      replace q197 := eq_true q197
      have p198 : 0 ≤ (x4_1 : Int) := of_decide_eq_true Z6
      have q198 : x4_1 < (l0_0.length : Int) := of_decide_eq_true Z6
      obtain ⟨ad198, e198, hx198_0, hx198_1⟩ := at_T88 HR0_0.out x4_1 p198 q198
      have hw198_1 := hx198_1
      have hw198_0 := hx198_0
      obtain rfl : ad197 = ad198 := (by injection e198)
      replace hx198_0 := (HB.out.cell (World.block_lt_of_cell? w _ hx198_0)).trans hx198_0
      replace hx198_1 := (HB.out.cell (World.block_lt_of_cell? w _ hx198_1)).trans hx198_1
      replace p198 := eq_true p198
      replace q198 := eq_true q198
      refine start_ (n := 17) (S := fun w' => w'.cell? ⟨gb195, 0, none⟩ = some (.slice (some ad197) l0_0.length c0_0) ∧ w'.cell? ⟨gb195, 1, none⟩ = some (.bool a0_1) ∧ w'.cell? ⟨gb195, 2, none⟩ = some (.int .i64 a0_2) ∧ w'.cell? (ad197.add ((x4_1).toNat * 2)) = some (.int .i64 ((rd_T88 l0_0 x4_1).f0)) ∧ w'.cell? ⟨(ad197.add ((x4_1).toNat * 2)).block, (ad197.add ((x4_1).toNat * 2)).off + 1, none⟩ = some (.string ((rd_T88 l0_0 x4_1).f1)) ∧ w'.cell? (ad197.add ((x4_1).toNat * 2)) = some (.int .i64 ((rd_T88 l0_0 x4_1).f0)) ∧ w'.cell? ⟨(ad197.add ((x4_1).toNat * 2)).block, (ad197.add ((x4_1).toNat * 2)).off + 1, none⟩ = some (.string ((rd_T88 l0_0 x4_1).f1))) (ds := []) #[false, false, false, false, false, false, false, false, false, false, false, false, false, false, false, false, false] (by kernel_rfl) rfl rfl ⟨(blk_cell BK195.out 0).trans rfl, (blk_cell BK195.out 1).trans rfl, (blk_cell BK195.out 2).trans rfl, ((HB.out.cell (World.block_lt_of_cell? w _ hw197_0)).trans hw197_0), ((HB.out.cell (World.block_lt_of_cell? w _ hw197_1)).trans hw197_1), ((HB.out.cell (World.block_lt_of_cell? w _ hw198_0)).trans hw198_0), ((HB.out.cell (World.block_lt_of_cell? w _ hw198_1)).trans hw198_1)⟩ (fun hHeld => ?_); refine with_tabW tabardlaw13_section.tab5 tabardlaw13_section.bits5 (fun HT_ HW_ => ?_)
      generalize wr.drew = w9 at HO_3 BK195 BK196 HB hx197_0 hx197_1 hx198_0 hx198_1 hHeld ⊢
      refine pure_ (i := 0) (N := some 12) (v := ?_) (a' := ?_) #[true, false, false, false, false, false, false, false, false, false, false, false, false, false, false, false, false] rfl rfl (any_of HT_.out (by kernel_rfl)) (fun _ _ _ h => h) (Or.inl ⟨by rfl, ?_⟩) ?_ ?_
      rotate_left
      ·exact Z4
      rotate_left
      ·exact Z21
      refine pure_ (i := 1) (N := some 13) (v := ?_) (a' := ?_) #[true, true, false, false, false, false, false, false, false, false, false, false, false, false, false, false, false] rfl rfl (any_of HT_.out (by kernel_rfl)) (fun _ _ _ h => h) (Or.inl ⟨by rfl, ?_⟩) ?_ ?_
      rotate_left
      ·exact Z4
      rotate_left
      ·exact Z21
      refine pure_ (i := 3) (N := some 15) (v := ?_) (a' := ?_) #[true, true, false, true, false, false, false, false, false, false, false, false, false, false, false, false, false] rfl rfl (any_of HT_.out (by kernel_rfl)) (fun _ _ _ h => h) (Or.inl ⟨by rfl, ?_⟩) ?_ ?_
      rotate_left
      ·exact Z4
      rotate_left
      ·exact Z21
      refine pure_ (i := 7) (N := some 19) (v := ?_) (a' := ?_) #[true, true, false, true, false, false, false, true, false, false, false, false, false, false, false, false, false] rfl rfl (any_of HT_.out (by kernel_rfl)) (fun _ _ _ h => h) (Or.inl ⟨by rfl, ?_⟩) ?_ ?_
      rotate_left
      ·exact Z4
      rotate_left
      ·exact Z21
      refine pure_ (i := 9) (N := some 21) (v := ?_) (a' := ?_) #[true, true, false, true, false, false, false, true, false, true, false, false, false, false, false, false, false] rfl rfl (any_of HT_.out (by kernel_rfl)) (fun _ _ _ h => h) (Or.inl ⟨by rfl, ?_⟩) ?_ ?_
      rotate_left
      ·exact Z4
      rotate_left
      ·exact Z21
      refine take_ (i := 2) (N := some 14) (v := ?_) (a' := ?_) #[true, true, true, true, false, false, false, true, false, true, false, false, false, false, false, false, false] rfl rfl (take_ofW HT_.out HW_.out (by kernel_rfl)) (fun _ _ _ h => h) (Or.inl ⟨by rfl, ?_⟩) hHeld ?_ ?_
      rotate_left
      ·exact Z64
      rotate_left
      ·exact Z21
      refine pure_ (i := 4) (N := some 16) (v := ?_) (a' := ?_) #[true, true, true, true, true, false, false, true, false, true, false, false, false, false, false, false, false] rfl rfl (any_of HT_.out (by kernel_rfl)) (fun _ _ _ h => h) (Or.inl ⟨by rfl, ?_⟩) ?_ ?_
      rotate_left
      ·exact Z4
      rotate_left
      ·exact Z21
      refine pure_ (i := 5) (N := some 17) (v := ?_) (a' := ?_) #[true, true, true, true, true, true, false, true, false, true, false, false, false, false, false, false, false] rfl rfl (any_of HT_.out (by kernel_rfl)) (fun _ _ _ h => h) (Or.inl ⟨by rfl, ?_⟩) ?_ ?_
      rotate_left
      ·exact Z4
      rotate_left
      ·exact Z21
      refine take_ (i := 6) (N := some 18) (v := ?_) (a' := ?_) #[true, true, true, true, true, true, true, true, false, true, false, false, false, false, false, false, false] rfl rfl (take_ofW HT_.out HW_.out (by kernel_rfl)) (fun _ _ _ h => h) (Or.inl ⟨by rfl, ?_⟩) hHeld ?_ ?_
      rotate_left
      ·exact Z64
      rotate_left
      ·exact Z21
      refine take_ (i := 8) (N := some 20) (v := ?_) (a' := ?_) #[true, true, true, true, true, true, true, true, true, true, false, false, false, false, false, false, false] rfl rfl (take_ofW HT_.out HW_.out (by kernel_rfl)) (fun _ _ _ h => h) (Or.inl ⟨by rfl, ?_⟩) hHeld ?_ ?_
      rotate_left
      ·exact Z64
      rotate_left
      ·exact Z21
      refine pure_ (i := 10) (N := some 22) (v := ?_) (a' := ?_) #[true, true, true, true, true, true, true, true, true, true, true, false, false, false, false, false, false] rfl rfl (any_of HT_.out (by kernel_rfl)) (fun _ _ _ h => h) (Or.inl ⟨by rfl, ?_⟩) ?_ ?_
      rotate_left
      ·exact Z4
      rotate_left
      ·exact Z21
      refine pure_ (i := 11) (N := some 23) (v := ?_) (a' := ?_) #[true, true, true, true, true, true, true, true, true, true, true, true, false, false, false, false, false] rfl rfl (any_of HT_.out (by kernel_rfl)) (fun _ _ _ h => h) (Or.inl ⟨by rfl, ?_⟩) ?_ ?_
      rotate_left
      ·exact Z4
      rotate_left
      ·exact Z21
      refine take_ (i := 12) (N := some 24) (v := ?_) (a' := ?_) #[true, true, true, true, true, true, true, true, true, true, true, true, true, false, false, false, false] rfl rfl (take_ofW HT_.out HW_.out (by kernel_rfl)) (fun _ _ _ h => h) (Or.inl ⟨by rfl, ?_⟩) hHeld ?_ ?_
      rotate_left
      ·exact Z64
      rotate_left
      ·exact Z21
      refine pure_ (i := 13) (N := some 25) (v := ?_) (a' := ?_) #[true, true, true, true, true, true, true, true, true, true, true, true, true, true, false, false, false] rfl rfl (any_of HT_.out (by kernel_rfl)) (fun _ _ _ h => h) (Or.inl ⟨by rfl, ?_⟩) ?_ ?_
      rotate_left
      ·exact Z4
      rotate_left
      ·exact Z21
      refine one_ (i := 14) (N := some 26) #[true, true, true, true, true, true, true, true, true, true, true, true, true, true, true, false, false] rfl rfl (one_of HT_.out (by kernel_rfl)) (by decide) (fun K hK => ?_)
      refine value_ (w1 := ?_) (v := ?_) (by rfl) rfl ?_ ?_
      rotate_left 2
      ·go_simp
       constructor
       ·rfl
       ·rfl
      refine hK.out _ _ ⟨(blk_cell (blk_alloc BK195.out _) 0).trans rfl, (blk_cell (blk_alloc BK195.out _) 1).trans rfl, (blk_cell (blk_alloc BK195.out _) 2).trans rfl, (World.cell?_alloc_lt _ _ _ (World.block_lt_of_cell? _ _ (((HB.out.cell (World.block_lt_of_cell? w _ hw197_0)).trans hw197_0)))).trans (((HB.out.cell (World.block_lt_of_cell? w _ hw197_0)).trans hw197_0)), (World.cell?_alloc_lt _ _ _ (World.block_lt_of_cell? _ _ (((HB.out.cell (World.block_lt_of_cell? w _ hw197_1)).trans hw197_1)))).trans (((HB.out.cell (World.block_lt_of_cell? w _ hw197_1)).trans hw197_1)), (World.cell?_alloc_lt _ _ _ (World.block_lt_of_cell? _ _ (((HB.out.cell (World.block_lt_of_cell? w _ hw198_0)).trans hw198_0)))).trans (((HB.out.cell (World.block_lt_of_cell? w _ hw198_0)).trans hw198_0)), (World.cell?_alloc_lt _ _ _ (World.block_lt_of_cell? _ _ (((HB.out.cell (World.block_lt_of_cell? w _ hw198_1)).trans hw198_1)))).trans (((HB.out.cell (World.block_lt_of_cell? w _ hw198_1)).trans hw198_1))⟩ (fun hHeld => ?_)
      clear hK K
      refine norm_ (a' := ?_) ?_ ?_
      rotate_left
      ·show Act.put _ (some 26) _ = _
       simp only [Act.put, List.setIfInBounds_toArray, List.set_cons_zero, List.set_cons_succ, i64_w, i32_w]
       rfl
      refine one_ (i := 15) (N := some 27) #[true, true, true, true, true, true, true, true, true, true, true, true, true, true, true, true, false] rfl rfl (one_of HT_.out (by kernel_rfl)) (by decide) (fun K hK => ?_)
      refine Kd.R_append_step k98 (w0 := w) w.heap.size (by rfl) (.tmp 12) (.tmp 26) 64 98 (.agg #[(.int .i64 0), (.string ⟨#[]⟩)]) 24 rfl Tryd.underlying64 info98 rfl (by decide) (by omega) u3 x3_1 (⟨(rd_T88 l0_0 x4_1).f0, (rd_T88 l0_0 x4_1).f1⟩ : S98) [.int .i64 ((rd_T88 l0_0 x4_1).f0), .string ((rd_T88 l0_0 x4_1).f1)] (fun _ => True) (fun _ => False) rfl rfl ?aP (fun _ hk => hk.elim) ?aF ?aO ?aB ?aS ?aL ?_
      (case aP => exact k98_mkM _ _ _ (⟨(rd_T88 l0_0 x4_1).f0, (rd_T88 l0_0 x4_1).f1⟩ : S98))
      (case aB => exact Z63)
      (case aF => exact (fun _ _ => trivial))
      (case aO => exact Z54)
      (case aS => exact (below_size Z63))
      (case aL => have := LMc6.out; omega)
      intro v200 w10 ho hb hg hat
      rw [← Ny199.out] at ho
      have n0_ := Aside0.mk (blk_grown (g := gb195) (o := .cells #[.slice (some ad197) l0_0.length c0_0, .bool a0_1, .int .i64 a0_2] 62 (0, 0)) Z51 hg (Kd.R_ne HO_3.out BK195.out (by decide)))
      have n1_ := Aside0.mk (blk_grown (g := gb196) (o := .cells #[.slice none 0 0, .bool false, .int .i64 0] 66 (0, 0)) (by (with_reducible repeat (first | refine blk_drewN ?_ _ | refine blk_drew ?_ | refine blk_alloc ?_ _)); exact BK196.out) hg (Kd.R_ne HO_3.out BK196.out (by decide)))
      have n2_ := Aside0.mk (hb)
      have n3_ := Aside0.mk (ho)
      clear BK195
      clear BK196
      clear HB
      clear HO_3
      have BK195 := n0_
      have BK196 := n1_
      have HB := n2_
      have HO201 := n3_
      clear n0_ n1_ n2_ n3_
      clear ho hb hg hat
      refine hK.out _ _ ⟨(blk_cell BK195.out 0).trans rfl, (blk_cell BK195.out 1).trans rfl, (blk_cell BK195.out 2).trans rfl, ((HB.out.cell (World.block_lt_of_cell? w _ hw197_0)).trans hw197_0), ((HB.out.cell (World.block_lt_of_cell? w _ hw197_1)).trans hw197_1), ((HB.out.cell (World.block_lt_of_cell? w _ hw198_0)).trans hw198_0), ((HB.out.cell (World.block_lt_of_cell? w _ hw198_1)).trans hw198_1)⟩ (fun hHeld => ?_)
      clear hK K
      refine norm_ (a' := ?_) ?_ ?_
      rotate_left
      ·show Act.put _ (some 27) _ = _
       simp only [Act.put, List.setIfInBounds_toArray, List.set_cons_zero, List.set_cons_succ, i64_w, i32_w]
       rfl
      refine pure_ (i := 16) (N := some 3) (v := ?_) (a' := ?_) #[true, true, true, true, true, true, true, true, true, true, true, true, true, true, true, true, true] rfl rfl (any_of HT_.out (by kernel_rfl)) (fun _ _ _ h => h) (Or.inl ⟨by rfl, ?_⟩) ?_ ?_
      rotate_left
      ·exact Z4
      rotate_left
      ·exact Z21
      refine done_ (done_of HT_.out (by kernel_rfl)) ?_
      try go_wp2
      go_roundg k1
      case measure => exact Z59
      case rel => exact ⟨(y199), (wrap64 (x4_1 + 1)), Z5, H', ⟨by have := HK1.out; omega⟩, ⟨by (with_reducible repeat (first | apply Kd.R_alloc | apply Kd.R_drewN | apply Kd.R_drew)); exact HO201.out⟩, ⟨by (with_reducible repeat (first | refine blk_drewN ?_ _ | refine blk_drew ?_ | refine blk_alloc ?_ _)); exact BK195.out⟩, ⟨by (with_reducible repeat (first | refine blk_drewN ?_ _ | refine blk_drew ?_ | refine blk_alloc ?_ _)); exact BK196.out⟩, ⟨by repeat (first | (with_reducible first | exact HB.out | apply below_alloc | apply pw_below_drewN | apply below_drew1 | refine below_set ?_ GE195.out | refine below_set ?_ GE196.out) | exact HB.out)⟩⟩
     ·rw [if_neg c6] at H
      exact Z33
    ·rw [if_neg c5] at H
     exact Z33
   ·rw [if_neg c4] at H
    have c4b0 : decide (x4_1 < (l0_0.length : Int)) = false := decide_eq_false c4
    clear c4
    simp only [Option.some.injEq, Prod.mk.injEq] at H
    obtain ⟨rfl, rfl, rfl⟩ := H
    have hnb11 := NB195_196.out
    have hnc11 := NB196_195.out
    have hcz12_0 : wr.cell? ⟨gb195, 0, none⟩ = some (.slice A0_0 l0_0.length c0_0) := (blk_cell BK195.out 0).trans rfl
    have hcz12_1 : wr.cell? ⟨gb195, 1, none⟩ = some (.bool a0_1) := (blk_cell BK195.out 1).trans rfl
    have hcz12_2 : wr.cell? ⟨gb195, 2, none⟩ = some (.int .i64 a0_2) := (blk_cell BK195.out 2).trans rfl
    have hfz12_0 := blk_frozen BK195.out 0
    have hfz12_1 := blk_frozen BK195.out 1
    have hfz12_2 := blk_frozen BK195.out 2
    obtain ⟨Ao13, co13, eo13⟩ := Kd.R_slice HO_3.out
    subst eo13
    have hcz14_0 : wr.cell? ⟨gb196, 0, none⟩ = some (.slice none 0 0) := (blk_cell BK196.out 0).trans rfl
    have hcz14_1 : wr.cell? ⟨gb196, 1, none⟩ = some (.bool false) := (blk_cell BK196.out 1).trans rfl
    have hcz14_2 : wr.cell? ⟨gb196, 2, none⟩ = some (.int .i64 0) := (blk_cell BK196.out 2).trans rfl
    have hfz14_0 := blk_frozen BK196.out 0
    have hfz14_1 := blk_frozen BK196.out 1
    have hfz14_2 := blk_frozen BK196.out 2
    go_wp2
    refine bodyPost_ret (results_cell_row rfl _ _ gb196 66 #[.slice Ao13 x3_1.length co13, .bool a0_1, .int .i64 a0_2] (0, 0) _ rfl (by (with_reducible repeat (first | refine blk_drewN ?_ _ | refine blk_drew ?_ | refine blk_alloc ?_ _)); refine blk_put (cs := #[.slice Ao13 x3_1.length co13, .bool a0_1, .int .i64 0]) ?_ 2 _ rfl; (with_reducible repeat (first | refine blk_drewN ?_ _ | refine blk_drew ?_ | refine blk_alloc ?_ _)); refine blk_put (cs := #[.slice Ao13 x3_1.length co13, .bool false, .int .i64 0]) ?_ 1 _ rfl; (with_reducible repeat (first | refine blk_drewN ?_ _ | refine blk_drew ?_ | refine blk_alloc ?_ _)); refine blk_put (cs := #[.slice none 0 0, .bool false, .int .i64 0]) ?_ 0 _ rfl; (with_reducible repeat (first | refine blk_drewN ?_ _ | refine blk_drew ?_ | refine blk_alloc ?_ _)); exact BK196.out) Tryd.underlying66 rfl (by kernel_rfl)) rfl ?_
    exact ⟨_, by first | rfl | (simp [errW_none, errW_some] <;> rfl) | (simp [*, errW_none, errW_some] <;> rfl), by (with_reducible repeat (first | apply Kd.R_alloc | apply Kd.R_drewN | apply Kd.R_drew)); exact Kd.R_mono (Kd.R_far (p := ⟨gb196, 2, none⟩) (Kd.R_far (p := ⟨gb196, 1, none⟩) (Kd.R_far (p := ⟨gb196, 0, none⟩) (Kd.R_types HO_3.out BK196.out (by decide)) (fun _ hk => hk.2) (.slice Ao13 x3_1.length co13)) (fun _ hk => hk.2) (.bool a0_1)) (fun _ hk => hk.2) (.int .i64 a0_2)) (fun _ hk => trivial), by repeat (first | (with_reducible first | exact HB.out | apply below_alloc | apply pw_below_drewN | apply below_drew1 | refine below_set ?_ GE195.out | refine below_set ?_ GE196.out) | exact HB.out)⟩
def tabardlaw13_sections.l0 : Nat → List (S66) → Int → List (S62) → Option ((List (S66)))
 | 0, _, _, _ => none
 | k + 1, x3, x4, x203000 => if x4 < (x203000.length : Int) then (if 0 ≤ x4 then ((tabardlaw13_section.f k ((rd_T62 x203000 x4).f0) ((rd_T62 x203000 x4).f1) ((rd_T62 x203000 x4).f2)).bind fun bt204 => (if x3.length < 3518437208883 then (tabardlaw13_sections.l0 k (x3 ++ [(⟨bt204.1, bt204.2.1, bt204.2.2⟩ : S66)]) (wrap64 (x4 + 1)) x203000) else (none))) else (none)) else (some x3)
def tabardlaw13_sections.f (k : Nat) (l0_0 : List (S62)) : Option ((List (S66))) := tabardlaw13_sections.l0 k ([] : List (S66)) 0 l0_0
theorem tabardlaw13_sections.mono_l : ∀ k, (∀ y0 y1 y2, LeO (tabardlaw13_sections.l0 k y0 y1 y2) (tabardlaw13_sections.l0 (k + 1) y0 y1 y2))
 | 0 => fun _ _ _ r h => by simp [tabardlaw13_sections.l0] at h
 | k + 1 => by
  have ih0 := tabardlaw13_sections.mono_l k
  ·intro y0 y1 y2
   unfold tabardlaw13_sections.l0
   repeat' first
   | (with_reducible exact ih0 _ _ _)
   | (with_reducible exact tabardlaw13_section.mono _ _ _ _)
   | (with_reducible exact LeO.refl _)
   | (with_reducible exact LeO.none _)
   | (with_reducible refine LeO.ite ?_ ?_)
   | (with_reducible refine LeO.bind ?_ (fun _ => ?_))
   | exact ih0 _ _ _
   | exact tabardlaw13_section.mono _ _ _ _
   | exact LeO.none _
   | refine LeO.ite ?_ ?_
   | refine LeO.bind ?_ (fun _ => ?_)
theorem tabardlaw13_sections.mono : ∀ a0 k, LeO (tabardlaw13_sections.f k a0) (tabardlaw13_sections.f (k + 1) a0) := by
 intro a0 k
 have ih0 := tabardlaw13_sections.mono_l k
 unfold tabardlaw13_sections.f
 repeat' first
   | (with_reducible exact ih0 _ _ _)
   | (with_reducible exact tabardlaw13_section.mono _ _ _ _)
   | (with_reducible exact LeO.refl _)
   | (with_reducible exact LeO.none _)
   | (with_reducible refine LeO.ite ?_ ?_)
   | (with_reducible refine LeO.bind ?_ (fun _ => ?_))
   | exact ih0 _ _ _
   | exact tabardlaw13_section.mono _ _ _ _
   | exact LeO.none _
   | refine LeO.ite ?_ ?_
   | refine LeO.bind ?_ (fun _ => ?_)
set_option maxHeartbeats 8000000 in
set_option maxRecDepth 100000 in
theorem tabardlaw13_sections.calls (k : Nat) (A0_0 : Option Addr) (c0_0 : Nat) (l0_0 : List (S62)) (r : List (S66)) (w : World) (hr0_0 : Kd.C k62 w A0_0 l0_0.length l0_0) (hc0_0 : l0_0.length ≤ c0_0) (h : tabardlaw13_sections.f k l0_0 = some r) :
  Calls Tryd.prog 30 #[.agg #[.slice A0_0 l0_0.length c0_0]] w fun e w' => ∃ v0_ : Value, e = .returned (v0_) ∧ Kd.S k66 66 w' w.heap.size (fun _ => True) v0_ r ∧ Below w.heap.size w w' := by
 have hu55 := Tryd.underlying55
 have hu62 := Tryd.underlying62
 have hu66 := Tryd.underlying66
 have HR0_0 := Aside0.mk hr0_0
 have HC0_0 := Aside0.mk hc0_0
 clear hr0_0 hc0_0
 have HB := Aside0.mk (Below.refl w.heap.size w)
 have H : (tabardlaw13_sections.l0 k ([] : List (S66)) 0 l0_0) = some r := h
 clear h
 have H' := Aside0.mk H
 clear H
 go_enter Tryd.func30, Tryd.ntmps30
 go_wp2_with (first | ((with_reducible refine gate_dst (N := 1) rfl ?_); refine box_event ?hg (N := 1) ?hd (cs := #[.slice A0_0 l0_0.length c0_0]) (t := 55) ?hr ?_; (case hd => rfl); (case hg => rfl); (case hr => exact Z18); intro gb202 hg w2 hbox hb; have n0_ := Aside0.mk (below_step Z2 hb); have n1_ := Aside0.mk (hbox); have n2_ := Aside0.mk ((by rw [hg]; exact (below_size Z2) : w.heap.size ≤ gb202)); have n3_ := Aside0.mk ((by rw [hg]; exact (below_size Z2) : w.heap.size ≤ gb202)); clear HB; have HB := n0_; have BK202 := n1_; have GW202 := n2_; have GE202 := n3_; clear n0_ n1_ n2_ n3_; clear hb hbox hg))
 go_loopg [3, 4] k (fun kq v3 v4 w' => ∃ (x3_1 : List (S66)) (x4_1 : Int), v4 = .int .i64 x4_1 ∧ Aside0 (tabardlaw13_sections.l0 kq x3_1 x4_1 l0_0 = some r) ∧ Aside0 (kq ≤ k) ∧ Aside0 (Kd.S k66 66 w' w.heap.size (fun _ => True) v3 x3_1) ∧ Aside0 (w'.heap[gb202]? = some (.cells #[(.slice A0_0 l0_0.length c0_0)] 55 (0, 0))) ∧ Aside0 (Below w.heap.size w w'))
 case atStart => exact ⟨(([] : List (S66))), (0), Z5, H', ⟨Nat.le_refl _⟩, ⟨by first | exact Kd.S_nil _ _ _ _ _ | exact Kd.N_nil _ _ _ _ _ | exact Kd.V_nil _ _ _ _ _ | exact Kd.Q_nil _ _ _ _ _ | exact Kd.R_nil _ _ _ _ _⟩, ⟨by (with_reducible repeat (first | refine blk_drewN ?_ _ | refine blk_drew ?_ | refine blk_alloc ?_ _)); exact BK202.out⟩, ⟨by repeat (first | (with_reducible first | exact HB.out | apply below_alloc | apply pw_below_drewN | apply below_drew1 | refine below_set ?_ GE202.out) | exact HB.out)⟩⟩
 case round =>
  clear H'
  try clear p2
  obtain ⟨x3_1, x4_1, rfl, HA, HK1, HO_3, BK202, HB⟩ := hrel
  cases gk with
  | zero => exact absurd HA.out (by simp [tabardlaw13_sections.l0])
  | succ k1 =>
   have H := HA.out
   clear HA
   simp only [tabardlaw13_sections.l0] at H
   by_cases c3 : x4_1 < (l0_0.length : Int)
   ·rw [if_pos c3] at H
    have c3b0 : decide (x4_1 < (l0_0.length : Int)) = true := decide_eq_true c3
    clear c3
    by_cases c4 : 0 ≤ x4_1
    ·rw [if_pos c4] at H
     have c4b0 : decide (0 ≤ x4_1) = true := decide_eq_true c4
     clear c4
     replace H := Option.bind_eq_some_iff.mp H
     obtain ⟨⟨t204, t207, t208⟩, A50, H⟩ := H
     replace H : (if x3_1.length < 3518437208883 then (tabardlaw13_sections.l0 k1 (x3_1 ++ [(⟨t204, t207, t208⟩ : S66)]) (wrap64 (x4_1 + 1)) l0_0) else (none)) = some r := H
     have A5 := Aside0.mk A50
     clear A50
     by_cases c6 : x3_1.length < 3518437208883
     ·rw [if_pos c6] at H
      have LMc6 := Aside0.mk c6
      clear c6
      obtain ⟨y210, hy210⟩ : ∃ y_ : List (S66), y_ = (x3_1 ++ [(⟨t204, t207, t208⟩ : S66)]) := ⟨_, rfl⟩
      replace H : (tabardlaw13_sections.l0 k1 y210 (wrap64 (x4_1 + 1)) l0_0) = some r := by first | (rw [hy210]; with_reducible exact H) | (have H2_ := (Option.bind_some _ _).symm.trans H; rw [hy210]; with_reducible exact H2_) | (have H2_ := (Option.bind_some _ _).symm.trans H; with_reducible exact H2_) | with_reducible exact H | (rw [hy210]; exact H) | exact H
      have Ny210 := Aside0.mk hy210
      clear hy210
      have H' := Aside0.mk H
      clear H
      have hcz7_0 : wr.cell? ⟨gb202, 0, none⟩ = some (.slice A0_0 l0_0.length c0_0) := (blk_cell BK202.out 0).trans rfl
      have hfz7_0 := blk_frozen BK202.out 0
      have p203 : 0 ≤ (x4_1 : Int) := of_decide_eq_true Z6
      have q203 : x4_1 < (l0_0.length : Int) := of_decide_eq_true Z6
      obtain ⟨ad203, A203_0, c203_0, e203, hx203_0, hx203_1, hx203_2, hl203_0, hi203_0⟩ := at_T62 HR0_0.out x4_1 p203 q203
      cases e203
      replace hx203_0 := (HB.out.cell (World.block_lt_of_cell? w _ hx203_0)).trans hx203_0
      replace hx203_1 := (HB.out.cell (World.block_lt_of_cell? w _ hx203_1)).trans hx203_1
      replace hx203_2 := (HB.out.cell (World.block_lt_of_cell? w _ hx203_2)).trans hx203_2
      have HR203_0 := Aside0.mk hi203_0
      have HC203_0 := Aside0.mk hl203_0
      clear hi203_0 hl203_0
      replace p203 := eq_true p203
      replace q203 := eq_true q203
      go_wp2_with (first | ((with_reducible refine gate_callee (f := 50) rfl ?_); refine goesL_ (some 18) rfl rfl Tryd.func50 (by kernel_rfl) rfl #[.agg #[.slice A203_0 ((rd_T62 l0_0 x4_1).f0).length c203_0, .bool ((rd_T62 l0_0 x4_1).f1), .int .i64 ((rd_T62 l0_0 x4_1).f2)]] rfl Z3 ?_; (with_reducible refine (tabardlaw13_section.calls k1 _ _ ((rd_T62 l0_0 x4_1).f0) ((rd_T62 l0_0 x4_1).f1) ((rd_T62 l0_0 x4_1).f2) t204 t207 t208 _ ?side1 ?side2 A5.out).mono ?_); (case side1 => repeat (first | exact (Kd.C_below HR203_0.out HB.out) | (with_reducible refine Kd.C_alloc ?_ _) | (with_reducible refine Kd.C_drewN ?_ _) | (with_reducible refine Kd.C_drew ?_))); (case side2 => exact HC203_0.out); rintro e w8 ⟨v205, rfl, ho0, hb⟩; refine ⟨_, rfl, ?_⟩; have n0_ := Aside0.mk (Kd.S_elder' (by (with_reducible repeat (first | apply Kd.S_alloc | apply Kd.S_drewN | apply Kd.S_drew)); exact HO_3.out) (Kd.R_base ho0) hb); have n1_ := Aside0.mk (Kd.R_lower ho0 (below_size Z42)); have n2_ := Aside0.mk (blk_below (g := gb202) (o := .cells #[.slice (some ad203) l0_0.length c0_0] 55 (0, 0)) Z45 hb); have n3_ := Aside0.mk (below_step Z42 hb); clear HO_3; clear BK202; clear HB; have HO_3 := n0_; have HO206 := n1_; have BK202 := n2_; have HB := n3_; clear n0_ n1_ n2_ n3_; (try clear hb); (try clear hb2); (try clear hk); (try clear hi); (try clear ho0)) | ((with_reducible refine gate_dst (N := 5) rfl ?_); refine box_event ?hg (N := 5) ?hd (cs := #[.slice none 0 0, .bool false, .int .i64 0]) (t := 66) ?hr ?_; (case hd => rfl); (case hg => rfl); (case hr => exact Z18); intro gb209 hg w9 hbox hb; have n0_ := Aside0.mk (Kd.S_below (Kd.S_elderB (by (with_reducible repeat (first | apply Kd.S_alloc | apply Kd.S_drewN | apply Kd.S_drew)); exact HO_3.out) gb209 (Nat.le_of_eq hg.symm)) hb); have n1_ := Aside0.mk (Kd.R_below (by (with_reducible repeat (first | apply Kd.R_alloc | apply Kd.R_drewN | apply Kd.R_drew)); exact HO206.out) hb); have n2_ := Aside0.mk (blk_below (g := gb202) (o := .cells #[.slice (some ad203) l0_0.length c0_0] 55 (0, 0)) Z45 hb); have n3_ := Aside0.mk (below_step Z42 hb); have n4_ := Aside0.mk (hbox); have n5_ := Aside0.mk ((by rw [hg]; exact (below_size Z42) : w.heap.size ≤ gb209)); have n6_ := Aside0.mk ((by rw [hg]; exact (below_size Z42) : w.heap.size ≤ gb209)); have n7_ := Aside0.mk ((by rw [hg]; exact Nat.ne_of_lt (blk_lt (g := gb202) (o := .cells #[.slice (some ad203) l0_0.length c0_0] 55 (0, 0)) Z45) : gb202 ≠ gb209)); have n8_ := Aside0.mk ((by rw [hg]; exact Nat.ne_of_gt (blk_lt (g := gb202) (o := .cells #[.slice (some ad203) l0_0.length c0_0] 55 (0, 0)) Z45) : gb209 ≠ gb202)); clear HO_3; clear HO206; clear BK202; clear HB; have HO_3 := n0_; have HO206 := n1_; have BK202 := n2_; have HB := n3_; have BK209 := n4_; have GW209 := n5_; have GE209 := n6_; have NB202_209 := n7_; have NB209_202 := n8_; clear n0_ n1_ n2_ n3_ n4_ n5_ n6_ n7_ n8_; clear hb hbox hg; obtain ⟨Ao10, co10, eo10⟩ := Kd.R_slice HO206.out; subst eo10; have hnb11 := NB209_202.out; have hnc11 := NB202_209.out; have hcz12_0 : w9.cell? ⟨gb209, 0, none⟩ = some (.slice none 0 0) := (blk_cell BK209.out 0).trans rfl; have hcz12_1 : w9.cell? ⟨gb209, 1, none⟩ = some (.bool false) := (blk_cell BK209.out 1).trans rfl; have hcz12_2 : w9.cell? ⟨gb209, 2, none⟩ = some (.int .i64 0) := (blk_cell BK209.out 2).trans rfl; have hfz12_0 := blk_frozen BK209.out 0; have hfz12_1 := blk_frozen BK209.out 1; have hfz12_2 := blk_frozen BK209.out 2) | ((with_reducible refine gate_store (t := 66) (p := 5) rfl ?_); refine store_event (t := 66) (p := 5) (v := ?vo_w13) (w1 := (((w9.setCell ⟨gb209, 0, none⟩ (.slice Ao10 t204.length co10)).setCell ⟨gb209, 1, none⟩ (.bool t207)).setCell ⟨gb209, 2, none⟩ (.int .i64 t208))) ?hg ?ho ?hn ?hr ?_; (case ho => rfl); (case hg => rfl); (case hn => rfl); (case hr => exact Z18); intro w13 hw; have n0_ : Aside0 (Kd.S k66 66 w13 w.heap.size (fun k_ => some k_ ≠ (.slice Ao10 t204.length co10 : Value).ownBlock ∧ k_ ≠ gb209) u3 x3_1) := ⟨(by rw [hw]; exact (by (with_reducible repeat (first | apply Kd.S_alloc | apply Kd.S_drewN | apply Kd.S_drew)); exact Kd.S_mono (Kd.S_far (p := ⟨gb209, 2, none⟩) (Kd.S_far (p := ⟨gb209, 1, none⟩) (Kd.S_far (p := ⟨gb209, 0, none⟩) (Kd.S_mono HO_3.out (fun k_ hk => (⟨hk, hk.2⟩ : _ ∧ k_ ≠ gb209))) (fun _ hk => hk.2) (.slice Ao10 t204.length co10)) (fun _ hk => hk.2) (.bool t207)) (fun _ hk => hk.2) (.int .i64 t208)) (fun _ hk => ⟨hk.1.1.2, hk.1.2⟩)))⟩; have n1_ : Aside0 (Kd.R k98 98 w13 w.heap.size (fun _ => True) (.slice Ao10 t204.length co10) t204) := ⟨(by rw [hw]; exact (by (with_reducible repeat (first | apply Kd.R_alloc | apply Kd.R_drewN | apply Kd.R_drew)); exact Kd.R_mono (Kd.R_far (p := ⟨gb209, 2, none⟩) (Kd.R_far (p := ⟨gb209, 1, none⟩) (Kd.R_far (p := ⟨gb209, 0, none⟩) (Kd.R_types HO206.out BK209.out (by decide)) (fun _ hk => hk.2) (.slice Ao10 t204.length co10)) (fun _ hk => hk.2) (.bool t207)) (fun _ hk => hk.2) (.int .i64 t208)) (fun _ hk => trivial)))⟩; have n2_ : Aside0 (w13.heap[gb202]? = some (.cells #[.slice (some ad203) l0_0.length c0_0] 55 (0, 0))) := ⟨(by rw [hw]; exact (by (with_reducible repeat (first | refine blk_drewN ?_ _ | refine blk_drew ?_ | refine blk_alloc ?_ _)); refine blk_far ?_ NB202_209.out _; (with_reducible repeat (first | refine blk_drewN ?_ _ | refine blk_drew ?_ | refine blk_alloc ?_ _)); refine blk_far ?_ NB202_209.out _; (with_reducible repeat (first | refine blk_drewN ?_ _ | refine blk_drew ?_ | refine blk_alloc ?_ _)); refine blk_far ?_ NB202_209.out _; (with_reducible repeat (first | refine blk_drewN ?_ _ | refine blk_drew ?_ | refine blk_alloc ?_ _)); exact BK202.out))⟩; have n3_ : Aside0 (w13.heap[gb209]? = some (.cells #[.slice Ao10 t204.length co10, .bool t207, .int .i64 t208] 66 (0, 0))) := ⟨(by rw [hw]; exact (by (with_reducible repeat (first | refine blk_drewN ?_ _ | refine blk_drew ?_ | refine blk_alloc ?_ _)); refine blk_put (cs := #[.slice Ao10 t204.length co10, .bool t207, .int .i64 0]) ?_ 2 _ rfl; (with_reducible repeat (first | refine blk_drewN ?_ _ | refine blk_drew ?_ | refine blk_alloc ?_ _)); refine blk_put (cs := #[.slice Ao10 t204.length co10, .bool false, .int .i64 0]) ?_ 1 _ rfl; (with_reducible repeat (first | refine blk_drewN ?_ _ | refine blk_drew ?_ | refine blk_alloc ?_ _)); refine blk_put (cs := #[.slice none 0 0, .bool false, .int .i64 0]) ?_ 0 _ rfl; (with_reducible repeat (first | refine blk_drewN ?_ _ | refine blk_drew ?_ | refine blk_alloc ?_ _)); exact BK209.out))⟩; have n4_ : Aside0 (Below w.heap.size w w13) := ⟨(by rw [hw]; exact Z47)⟩; clear hw; clear HO_3; clear HO206; clear BK202; clear BK209; clear HB; have HO_3 := n0_; have HO206 := n1_; have BK202 := n2_; have BK209 := n3_; have HB := n4_; clear n0_ n1_ n2_ n3_ n4_; have hcz14_0 : w13.cell? ⟨gb209, 0, none⟩ = some (.slice Ao10 t204.length co10) := (blk_cell BK209.out 0).trans rfl; have hcz14_1 : w13.cell? ⟨gb209, 1, none⟩ = some (.bool t207) := (blk_cell BK209.out 1).trans rfl; have hcz14_2 : w13.cell? ⟨gb209, 2, none⟩ = some (.int .i64 t208) := (blk_cell BK209.out 2).trans rfl; have hfz14_0 := blk_frozen BK209.out 0; have hfz14_1 := blk_frozen BK209.out 1; have hfz14_2 := blk_frozen BK209.out 2) | ((with_reducible refine gate_builtin (b := .append) (xs := #[.tmp 19, .tmp 21]) rfl ?_); at_builtin; refine Kd.S_append k66 (w0 := w) w.heap.size rfl (.tmp 19) (.tmp 21) 57 66 (.agg #[(.slice none 0 0), (.bool false), (.int .i64 0)]) 40 rfl Tryd.underlying57 info66 rfl (by decide) (by omega) u3 x3_1 (⟨t204, t207, t208⟩ : S66) [.slice Ao10 t204.length co10, .bool t207, .int .i64 t208] (fun k_ => k_ ≠ gb209) (fun k_ => some k_ = (.slice Ao10 t204.length co10 : Value).ownBlock) rfl rfl ?aP (fun k_ hk_ => ((Kd.R_mono (ok' := fun k_ => ((fun k_ => k_ ≠ gb209)) k_ ∧ some k_ ≠ (u3 : Value).ownBlock) (Kd.R_types (Kd.R_apart' (HO206.out) (Kd.S_typed HO_3.out) (by decide)) BK209.out (by decide)) (fun k_ hk => ⟨hk.2, hk.1.2⟩))).1 k_ hk_.symm) ?aF ?aO ?aB ?aS ?aL ?_; (case aP => exact k66_mkM _ _ _ (⟨t204, t207, t208⟩ : S66) (Kd.R_mono (Kd.R_tight rfl (Kd.R_mono (ok' := fun k_ => ((fun k_ => k_ ≠ gb209)) k_ ∧ some k_ ≠ (u3 : Value).ownBlock) (Kd.R_types (Kd.R_apart' (HO206.out) (Kd.S_typed HO_3.out) (by decide)) BK209.out (by decide)) (fun k_ hk => ⟨hk.2, hk.1.2⟩))) (fun _ h_ => h_))); (case aB => exact Z47); (case aF => exact (fun k_ hk => Kd.freshB (g := gb209) (o := .cells #[.slice Ao10 t204.length co10, .bool t207, .int .i64 t208] 66 (0, 0)) (by (with_reducible repeat (first | refine blk_drewN ?_ _ | refine blk_drew ?_ | refine blk_alloc ?_ _)); exact BK209.out) k_ hk)); (case aO => exact (by (with_reducible repeat (first | apply Kd.S_alloc | apply Kd.S_drewN | apply Kd.S_drew)); exact Kd.S_mono HO_3.out (fun k_ hk => ⟨hk.2, fun e_ => hk.1 e_⟩))); (case aS => exact (below_size Z47)); (case aL => have := LMc6.out; omega); intro v211 w15 ho hb hg hat; rw [← Ny210.out] at ho; have n0_ := Aside0.mk (blk_grown (g := gb202) (o := .cells #[.slice (some ad203) l0_0.length c0_0] 55 (0, 0)) Z45 hg (Kd.S_ne HO_3.out BK202.out (by decide))); have n1_ := Aside0.mk (blk_grown (g := gb209) (o := .cells #[.slice Ao10 t204.length co10, .bool t207, .int .i64 t208] 66 (0, 0)) (by (with_reducible repeat (first | refine blk_drewN ?_ _ | refine blk_drew ?_ | refine blk_alloc ?_ _)); exact BK209.out) hg (Kd.S_away HO_3.out (fun _ hk => hk.2))); have n2_ := Aside0.mk (hb); have n3_ := Aside0.mk (ho); clear BK202; clear BK209; clear HB; clear HO_3; clear HO206; have BK202 := n0_; have BK209 := n1_; have HB := n2_; have HO212 := n3_; clear n0_ n1_ n2_ n3_; clear ho hb hg hat))
      go_roundg k1
      case measure => exact Z59
      case rel => exact ⟨(y210), (wrap64 (x4_1 + 1)), Z5, H', ⟨by have := HK1.out; omega⟩, ⟨by (with_reducible repeat (first | apply Kd.S_alloc | apply Kd.S_drewN | apply Kd.S_drew)); exact Kd.S_mono HO212.out (fun _ hk => trivial)⟩, ⟨by (with_reducible repeat (first | refine blk_drewN ?_ _ | refine blk_drew ?_ | refine blk_alloc ?_ _)); exact BK202.out⟩, ⟨by repeat (first | (with_reducible first | exact HB.out | apply below_alloc | apply pw_below_drewN | apply below_drew1 | refine below_set ?_ GE202.out | refine below_set ?_ GE209.out) | exact HB.out)⟩⟩
     ·rw [if_neg c6] at H
      exact Z33
    ·rw [if_neg c4] at H
     exact Z33
   ·rw [if_neg c3] at H
    have c3b0 : decide (x4_1 < (l0_0.length : Int)) = false := decide_eq_false c3
    clear c3
    obtain rfl := Option.some.inj H
    have hcz16_0 : wr.cell? ⟨gb202, 0, none⟩ = some (.slice A0_0 l0_0.length c0_0) := (blk_cell BK202.out 0).trans rfl
    have hfz16_0 := blk_frozen BK202.out 0
    go_wp2
    go_ret
    exact ⟨_, by first | rfl | (simp [errW_none, errW_some] <;> rfl) | (simp [*, errW_none, errW_some] <;> rfl), by (with_reducible repeat (first | apply Kd.S_alloc | apply Kd.S_drewN | apply Kd.S_drew)); exact HO_3.out, by repeat (first | (with_reducible first | exact HB.out | apply below_alloc | apply pw_below_drewN | apply below_drew1 | refine below_set ?_ GE202.out) | exact HB.out)⟩
end Go.Proofs.YtmbhjogohfcjgaaDoor.P
