-- Laid by wip/tools/xprint.py, a program of this session's, over the kit's print. Lean checks it.
import Derived.Test.YtmbhjogohfcjgaaDoorP0
import Derived.Test.YtmbhjogohfcjgaaDoorP7
import Derived.Test.YtmbhjogohfcjgaaDoorPe
import Derived.Test.YtmbhjogohfcjgaaDoorPp
namespace Go.Proofs.YtmbhjogohfcjgaaDoor.P
open Go.RowKit Go.Proofs.YtmbhjogohfcjgaaDoorW.PrintWords Go.Proofs.YtmbhjogohfcjgaaDoorW.PrintLast Go.Proofs.YtmbhjogohfcjgaaDoorW.PrintMore
attribute [local go_sem] max2_int min2_int max_two min_two max_three min_three max_four min_four   -- for this text's walks alone
set_option linter.unusedVariables false
set_option linter.unusedSimpArgs false
def pattern_Print.l0 : Nat → List ByteArray → List (S62) → Int → Int → Option (ByteArray)
 | 0, _, _, _, _ => none
 | k + 1, x3, x10, x11, x12 => if x12 < x11 then (if 0 ≤ x12 then (if x12 < (x10.length : Int) then ((pattern_Section_print.f ((rd_T62 x10 x12).f0) ((rd_T62 x10 x12).f1) ((rd_T62 x10 x12).f2)).bind fun t246 => (if x3.length < 8796093022208 then (pattern_Print.l0 k (x3 ++ [t246]) x10 x11 (wrap64 (x12 + 1))) else (none))) else (none)) else (none)) else ((strings_Join.f x3 (⟨#[59]⟩ : ByteArray)).bind fun t250 => (some t250))
def pattern_Print.f (k : Nat) (l0_0 : List (S62)) : Option (ByteArray) := (pattern_Right.f k l0_0).bind fun t243 => (if t243 = true then (pattern_Print.l0 k ([] : List ByteArray) l0_0 (l0_0.length : Int) 0) else (some (⟨#[]⟩ : ByteArray)))
theorem pattern_Print.mono_l : ∀ k, (∀ y0 y1 y2 y3, LeO (pattern_Print.l0 k y0 y1 y2 y3) (pattern_Print.l0 (k + 1) y0 y1 y2 y3))
 | 0 => fun _ _ _ _ r h => by simp [pattern_Print.l0] at h
 | k + 1 => by
  have ih0 := pattern_Print.mono_l k
  ·intro y0 y1 y2 y3
   unfold pattern_Print.l0
   repeat' first
   | (with_reducible exact ih0 _ _ _ _)
   | (with_reducible exact pattern_Right.mono _ _)
   | (with_reducible exact LeO.refl _)
   | (with_reducible exact LeO.none _)
   | (with_reducible refine LeO.ite ?_ ?_)
   | (with_reducible refine LeO.bind ?_ (fun _ => ?_))
   | exact ih0 _ _ _ _
   | exact pattern_Right.mono _ _
   | exact LeO.none _
   | refine LeO.ite ?_ ?_
   | refine LeO.bind ?_ (fun _ => ?_)
theorem pattern_Print.mono : ∀ a0 k, LeO (pattern_Print.f k a0) (pattern_Print.f (k + 1) a0) := by
 intro a0 k
 have ih0 := pattern_Print.mono_l k
 unfold pattern_Print.f
 repeat' first
   | (with_reducible exact ih0 _ _ _ _)
   | (with_reducible exact pattern_Right.mono _ _)
   | (with_reducible exact LeO.refl _)
   | (with_reducible exact LeO.none _)
   | (with_reducible refine LeO.ite ?_ ?_)
   | (with_reducible refine LeO.bind ?_ (fun _ => ?_))
   | exact ih0 _ _ _ _
   | exact pattern_Right.mono _ _
   | exact LeO.none _
   | refine LeO.ite ?_ ?_
   | refine LeO.bind ?_ (fun _ => ?_)
set_option maxHeartbeats 8000000 in
set_option maxRecDepth 100000 in
theorem pattern_Print.calls (k : Nat) (A0_0 : Option Addr) (c0_0 : Nat) (l0_0 : List (S62)) (r : ByteArray) (w : World) (hGL : GL w) (hr0_0 : Kd.C k62 w A0_0 l0_0.length l0_0) (hc0_0 : l0_0.length ≤ c0_0) (h : pattern_Print.f k l0_0 = some r) :
  Calls Tryd.prog 35 #[.agg #[.slice A0_0 l0_0.length c0_0]] w fun e w' => e = .returned (.string r) ∧ Below w.heap.size w w' := by
 have hu55 := Tryd.underlying55
 have hu62 := Tryd.underlying62
 have HGL := Aside0.mk hGL
 clear hGL
 have HR0_0 := Aside0.mk hr0_0
 have HC0_0 := Aside0.mk hc0_0
 clear hr0_0 hc0_0
 have HB := Aside0.mk (Below.refl w.heap.size w)
 have H : ((pattern_Right.f k l0_0).bind fun t243 => (if t243 = true then (pattern_Print.l0 k ([] : List ByteArray) l0_0 (l0_0.length : Int) 0) else (some (⟨#[]⟩ : ByteArray)))) = some r := h
 clear h
 replace H := Option.bind_eq_some_iff.mp H
 obtain ⟨t243, A20, H⟩ := H
 replace H : (if t243 = true then (pattern_Print.l0 k ([] : List ByteArray) l0_0 (l0_0.length : Int) 0) else (some (⟨#[]⟩ : ByteArray))) = some r := H
 have A2 := Aside0.mk A20
 clear A20
 by_cases c3 : t243 = true
 ·subst c3
  have H1 : (pattern_Print.l0 k ([] : List ByteArray) l0_0 (l0_0.length : Int) 0) = some r := by rw [if_pos rfl] at H; exact H
  clear H
  have H := H1
  clear H1
  have H' := Aside0.mk H
  clear H
  go_enter Tryd.func35, Tryd.ntmps35
  go_wp2_with (first | ((with_reducible refine gate_dst (N := 1) rfl ?_); refine box_event ?hg (N := 1) ?hd (cs := #[.slice A0_0 l0_0.length c0_0]) (t := 55) ?hr ?_; (case hd => rfl); (case hg => rfl); (case hr => exact Z18); intro gb242 hg w4 hbox hb; have n0_ := Aside0.mk (below_step Z2 hb); have n1_ := Aside0.mk (hbox); have n2_ := Aside0.mk ((by rw [hg]; exact (below_size Z2) : w.heap.size ≤ gb242)); have n3_ := Aside0.mk ((by rw [hg]; exact (below_size Z2) : w.heap.size ≤ gb242)); clear HB; have HB := n0_; have BK242 := n1_; have GW242 := n2_; have GE242 := n3_; clear n0_ n1_ n2_ n3_; clear hb hbox hg; have hcz5_0 : w4.cell? ⟨gb242, 0, none⟩ = some (.slice A0_0 l0_0.length c0_0) := (blk_cell BK242.out 0).trans rfl; have hfz5_0 := blk_frozen BK242.out 0) | ((with_reducible refine gate_callee (f := 33) rfl ?_); refine goesL_ (some 7) rfl rfl Tryd.func33 (by kernel_rfl) rfl #[.agg #[.slice A0_0 l0_0.length c0_0]] rfl Z3 ?_; (with_reducible refine (pattern_Right.calls k _ _ l0_0 true _ ?side3 ?side1 ?side2 A2.out).mono ?_); (case side1 => exact Z7); (case side2 => exact Z39); (case side3 => exact GL.below HGL.out Z30); rintro e w6 ⟨rfl, hb⟩; refine ⟨_, rfl, ?_⟩; have n0_ := Aside0.mk (blk_below (g := gb242) (o := .cells #[.slice A0_0 l0_0.length c0_0] 55 (0, 0)) Z41 hb); have n1_ := Aside0.mk (below_step Z30 hb); clear BK242; clear HB; have BK242 := n0_; have HB := n1_; clear n0_ n1_; (try clear hb); (try clear hb2); (try clear hk); (try clear hi); have hcz7_0 : w6.cell? ⟨gb242, 0, none⟩ = some (.slice A0_0 l0_0.length c0_0) := (blk_cell BK242.out 0).trans rfl; have hfz7_0 := blk_frozen BK242.out 0))
  go_loopg [3, 12] k (fun kq v3 v12 w' => ∃ (x3_1 : List ByteArray) (x12_1 : Int), v12 = .int .i64 x12_1 ∧ Aside0 (pattern_Print.l0 kq x3_1 l0_0 (l0_0.length : Int) x12_1 = some r) ∧ Aside0 (kq ≤ k) ∧ Aside0 (Kd.R Kd.string 9 w' w.heap.size (fun _ => True) v3 x3_1) ∧ Aside0 (w'.heap[gb242]? = some (.cells #[(.slice A0_0 l0_0.length c0_0)] 55 (0, 0))) ∧ Aside0 (Below w.heap.size w w'))
  case atStart => exact ⟨(([] : List ByteArray)), (0), Z5, H', ⟨Nat.le_refl _⟩, ⟨by first | exact Kd.R_nil _ _ _ _ _ | exact Kd.N_nil _ _ _ _ _ | exact Kd.V_nil _ _ _ _ _ | exact Kd.Q_nil _ _ _ _ _ | exact Kd.S_nil _ _ _ _ _⟩, ⟨by (with_reducible repeat (first | refine blk_drewN ?_ _ | refine blk_drew ?_ | refine blk_alloc ?_ _)); exact BK242.out⟩, ⟨by repeat (first | (with_reducible first | exact HB.out | apply below_alloc | apply pw_below_drewN | apply below_drew1 | refine below_set ?_ GE242.out) | exact HB.out)⟩⟩
  case round =>
   clear H'
   try clear p2
   try clear c3
   try clear hcz5_0
   try clear hcz7_0
   try clear hfz5_0
   try clear hfz7_0
   obtain ⟨x3_1, x12_1, rfl, HA, HK1, HO_3, BK242, HB⟩ := hrel
   cases gk with
   | zero => exact absurd HA.out (by simp [pattern_Print.l0])
   | succ k1 =>
    have H := HA.out
    clear HA
    simp only [pattern_Print.l0] at H
    by_cases c8 : x12_1 < (l0_0.length : Int)
    ·rw [if_pos c8] at H
     have c8b0 : decide (x12_1 < (l0_0.length : Int)) = true := decide_eq_true c8
     clear c8
     by_cases c9 : 0 ≤ x12_1
     ·rw [if_pos c9] at H
      have c9b0 : decide (0 ≤ x12_1) = true := decide_eq_true c9
      clear c9
      by_cases c10 : x12_1 < (l0_0.length : Int)
      ·rw [if_pos c10] at H
       have c10b0 : decide (x12_1 < (l0_0.length : Int)) = true := decide_eq_true c10
       clear c10
       replace H := Option.bind_eq_some_iff.mp H
       obtain ⟨t246, A110, H⟩ := H
       replace H : (if x3_1.length < 8796093022208 then (pattern_Print.l0 k1 (x3_1 ++ [t246]) l0_0 (l0_0.length : Int) (wrap64 (x12_1 + 1))) else (none)) = some r := H
       have A11 := Aside0.mk A110
       clear A110
       by_cases c12 : x3_1.length < 8796093022208
       ·rw [if_pos c12] at H
        have LMc12 := Aside0.mk c12
        clear c12
        obtain ⟨y247, hy247⟩ : ∃ y_ : List ByteArray, y_ = (x3_1 ++ [t246]) := ⟨_, rfl⟩
        replace H : (pattern_Print.l0 k1 y247 l0_0 (l0_0.length : Int) (wrap64 (x12_1 + 1))) = some r := by first | (rw [hy247]; with_reducible exact H) | (have H2_ := (Option.bind_some _ _).symm.trans H; rw [hy247]; with_reducible exact H2_) | (have H2_ := (Option.bind_some _ _).symm.trans H; with_reducible exact H2_) | with_reducible exact H | (rw [hy247]; exact H) | exact H
        have Ny247 := Aside0.mk hy247
        clear hy247
        have H' := Aside0.mk H
        clear H
        have p244 : 0 ≤ (x12_1 : Int) := of_decide_eq_true Z6
        have q244 : x12_1 < (l0_0.length : Int) := of_decide_eq_true Z6
        obtain ⟨ad244, A244_0, c244_0, e244, hx244_0, hx244_1, hx244_2, hl244_0, hi244_0⟩ := at_T62 HR0_0.out x12_1 p244 q244
        cases e244
        replace hx244_0 := (HB.out.cell (World.block_lt_of_cell? w _ hx244_0)).trans hx244_0
        replace hx244_1 := (HB.out.cell (World.block_lt_of_cell? w _ hx244_1)).trans hx244_1
        replace hx244_2 := (HB.out.cell (World.block_lt_of_cell? w _ hx244_2)).trans hx244_2
        have HR244_0 := Aside0.mk hi244_0
        have HC244_0 := Aside0.mk hl244_0
        clear hi244_0 hl244_0
        replace p244 := eq_true p244
        replace q244 := eq_true q244
        go_wp2_with (first | ((with_reducible refine gate_dst (N := 5) rfl ?_); refine box_event ?hg (N := 5) ?hd (cs := #[.slice none 0 0, .bool false, .int .i64 0]) (t := 62) ?hr ?_; (case hd => rfl); (case hg => rfl); (case hr => exact Z18); intro gb245 hg w13 hbox hb; have n0_ := Aside0.mk (Kd.R_below Z54 hb); have n1_ := Aside0.mk (blk_below (g := gb242) (o := .cells #[.slice (some ad244) l0_0.length c0_0] 55 (0, 0)) Z41 hb); have n2_ := Aside0.mk (below_step Z30 hb); have n3_ := Aside0.mk (hbox); have n4_ := Aside0.mk ((by rw [hg]; exact (below_size Z30) : w.heap.size ≤ gb245)); have n5_ := Aside0.mk ((by rw [hg]; exact (below_size Z30) : w.heap.size ≤ gb245)); have n6_ := Aside0.mk ((by rw [hg]; exact Nat.ne_of_lt (blk_lt (g := gb242) (o := .cells #[.slice (some ad244) l0_0.length c0_0] 55 (0, 0)) Z41) : gb242 ≠ gb245)); have n7_ := Aside0.mk ((by rw [hg]; exact Nat.ne_of_gt (blk_lt (g := gb242) (o := .cells #[.slice (some ad244) l0_0.length c0_0] 55 (0, 0)) Z41) : gb245 ≠ gb242)); clear HO_3; clear BK242; clear HB; have HO_3 := n0_; have BK242 := n1_; have HB := n2_; have BK245 := n3_; have GW245 := n4_; have GE245 := n5_; have NB242_245 := n6_; have NB245_242 := n7_; clear n0_ n1_ n2_ n3_ n4_ n5_ n6_ n7_; clear hb hbox hg; have hnb14 := NB245_242.out; have hnc14 := NB242_245.out; have hcz15_0 : w13.cell? ⟨gb245, 0, none⟩ = some (.slice none 0 0) := (blk_cell BK245.out 0).trans rfl; have hcz15_1 : w13.cell? ⟨gb245, 1, none⟩ = some (.bool false) := (blk_cell BK245.out 1).trans rfl; have hcz15_2 : w13.cell? ⟨gb245, 2, none⟩ = some (.int .i64 0) := (blk_cell BK245.out 2).trans rfl; have hfz15_0 := blk_frozen BK245.out 0; have hfz15_1 := blk_frozen BK245.out 1; have hfz15_2 := blk_frozen BK245.out 2) | ((with_reducible refine gate_callee (f := 62) rfl ?_); refine goesL_ (some 18) rfl rfl Tryd.func62 (by kernel_rfl) rfl #[.agg #[.slice A244_0 ((rd_T62 l0_0 x12_1).f0).length c244_0, .bool ((rd_T62 l0_0 x12_1).f1), .int .i64 ((rd_T62 l0_0 x12_1).f2)]] rfl Z3 ?_; (with_reducible refine (pattern_Section_print.calls _ _ ((rd_T62 l0_0 x12_1).f0) ((rd_T62 l0_0 x12_1).f1) ((rd_T62 l0_0 x12_1).f2) t246 _ ?side3 ?side1 ?side2 A11.out).mono ?_); (case side1 => exact Kd.C_below HR244_0.out Z38); (case side2 => exact HC244_0.out); (case side3 => exact GL.below HGL.out Z38); rintro e w16 ⟨rfl, hb⟩; refine ⟨_, rfl, ?_⟩; have n0_ := Aside0.mk (Kd.R_below (by (with_reducible repeat (first | apply Kd.R_alloc | apply Kd.R_drewN | apply Kd.R_drew)); exact (Kd.R_mono (Kd.R_far (p := ⟨gb245, 2, none⟩) (Kd.R_far (p := ⟨gb245, 1, none⟩) (Kd.R_far (p := ⟨gb245, 0, none⟩) (Kd.R_types HO_3.out BK245.out (by decide)) (fun _ hk => hk.2) (.slice A244_0 ((rd_T62 l0_0 x12_1).f0).length c244_0)) (fun _ hk => hk.2) (.bool ((rd_T62 l0_0 x12_1).f1))) (fun _ hk => hk.2) (.int .i64 ((rd_T62 l0_0 x12_1).f2))) (fun _ h_ => h_.1))) hb); have n1_ := Aside0.mk (blk_below (g := gb242) (o := .cells #[.slice (some ad244) l0_0.length c0_0] 55 (0, 0)) (by (with_reducible repeat (first | refine blk_drewN ?_ _ | refine blk_drew ?_ | refine blk_alloc ?_ _)); refine blk_far ?_ NB242_245.out _; (with_reducible repeat (first | refine blk_drewN ?_ _ | refine blk_drew ?_ | refine blk_alloc ?_ _)); refine blk_far ?_ NB242_245.out _; (with_reducible repeat (first | refine blk_drewN ?_ _ | refine blk_drew ?_ | refine blk_alloc ?_ _)); refine blk_far ?_ NB242_245.out _; (with_reducible repeat (first | refine blk_drewN ?_ _ | refine blk_drew ?_ | refine blk_alloc ?_ _)); exact BK242.out) hb); have n2_ := Aside0.mk (blk_below (g := gb245) (o := .cells #[.slice A244_0 ((rd_T62 l0_0 x12_1).f0).length c244_0, .bool ((rd_T62 l0_0 x12_1).f1), .int .i64 ((rd_T62 l0_0 x12_1).f2)] 62 (0, 0)) (by (with_reducible repeat (first | refine blk_drewN ?_ _ | refine blk_drew ?_ | refine blk_alloc ?_ _)); refine blk_put (cs := #[.slice A244_0 ((rd_T62 l0_0 x12_1).f0).length c244_0, .bool ((rd_T62 l0_0 x12_1).f1), .int .i64 0]) ?_ 2 _ rfl; (with_reducible repeat (first | refine blk_drewN ?_ _ | refine blk_drew ?_ | refine blk_alloc ?_ _)); refine blk_put (cs := #[.slice A244_0 ((rd_T62 l0_0 x12_1).f0).length c244_0, .bool false, .int .i64 0]) ?_ 1 _ rfl; (with_reducible repeat (first | refine blk_drewN ?_ _ | refine blk_drew ?_ | refine blk_alloc ?_ _)); refine blk_put (cs := #[.slice none 0 0, .bool false, .int .i64 0]) ?_ 0 _ rfl; (with_reducible repeat (first | refine blk_drewN ?_ _ | refine blk_drew ?_ | refine blk_alloc ?_ _)); exact BK245.out) hb); have n3_ := Aside0.mk (below_step Z38 hb); clear HO_3; clear BK242; clear BK245; clear HB; have HO_3 := n0_; have BK242 := n1_; have BK245 := n2_; have HB := n3_; clear n0_ n1_ n2_ n3_; (try clear hb); (try clear hb2); (try clear hk); (try clear hi)) | ((with_reducible refine gate_builtin (b := .append) (xs := #[.tmp 16, .tmp 19]) rfl ?_); at_builtin; refine Kd.R_append Kd.string (w0 := w) w.heap.size rfl (.tmp 16) (.tmp 19) 45 9 (.string ⟨#[]⟩) 16 rfl Tryd.underlying45 info9 rfl (by decide) (by omega) u3 x3_1 t246 [.string t246] (fun _ => True) (fun _ => False) rfl rfl ?aP (fun _ hk => hk.elim) ?aF ?aO ?aB ?aS ?aL ?_; (case aP => exact rfl); (case aB => exact Z38); (case aF => exact (fun _ _ => trivial)); (case aO => exact Z54); (case aS => exact (below_size Z38)); (case aL => have := LMc12.out; omega); intro v248 w17 ho hb hg hat; rw [← Ny247.out] at ho; have n0_ := Aside0.mk (blk_grown (g := gb242) (o := .cells #[.slice (some ad244) l0_0.length c0_0] 55 (0, 0)) Z41 hg (Kd.R_ne HO_3.out BK242.out (by decide))); have n1_ := Aside0.mk (blk_grown (g := gb245) (o := .cells #[.slice A244_0 ((rd_T62 l0_0 x12_1).f0).length c244_0, .bool ((rd_T62 l0_0 x12_1).f1), .int .i64 ((rd_T62 l0_0 x12_1).f2)] 62 (0, 0)) (by (with_reducible repeat (first | refine blk_drewN ?_ _ | refine blk_drew ?_ | refine blk_alloc ?_ _)); exact BK245.out) hg (Kd.R_ne HO_3.out BK245.out (by decide))); have n2_ := Aside0.mk (hb); have n3_ := Aside0.mk (ho); clear BK242; clear BK245; clear HB; clear HO_3; have BK242 := n0_; have BK245 := n1_; have HB := n2_; have HO249 := n3_; clear n0_ n1_ n2_ n3_; clear ho hb hg hat))
        go_roundg k1
        case measure => exact Z59
        case rel => exact ⟨(y247), (wrap64 (x12_1 + 1)), Z5, H', ⟨by have := HK1.out; omega⟩, ⟨by (with_reducible repeat (first | apply Kd.R_alloc | apply Kd.R_drewN | apply Kd.R_drew)); exact HO249.out⟩, ⟨by (with_reducible repeat (first | refine blk_drewN ?_ _ | refine blk_drew ?_ | refine blk_alloc ?_ _)); exact BK242.out⟩, ⟨by repeat (first | (with_reducible first | exact HB.out | apply below_alloc | apply pw_below_drewN | apply below_drew1 | refine below_set ?_ GE242.out | refine below_set ?_ GE245.out) | exact HB.out)⟩⟩
       ·rw [if_neg c12] at H
        exact Z33
      ·rw [if_neg c10] at H
       exact Z33
     ·rw [if_neg c9] at H
      exact Z33
    ·rw [if_neg c8] at H
     have c8b0 : decide (x12_1 < (l0_0.length : Int)) = false := decide_eq_false c8
     clear c8
     replace H := Option.bind_eq_some_iff.mp H
     obtain ⟨t250, A180, H⟩ := H
     replace H : (some t250) = some r := H
     have A18 := Aside0.mk A180
     clear A180
     obtain rfl := Option.some.inj H
     obtain ⟨Ao19, co19, eo19⟩ := Kd.R_slice HO_3.out
     subst eo19
     go_wp2_with (first | ((with_reducible refine gate_callee (f := 63) rfl ?_); refine goesL_ (some 23) rfl rfl Tryd.func63 (by kernel_rfl) rfl #[.slice Ao19 x3_1.length co19, .string (⟨#[59]⟩ : ByteArray)] rfl Z3 ?_; (with_reducible refine (strings_Join.calls _ _ x3_1 (⟨#[59]⟩ : ByteArray) t250 _ ?side1 ?side2 A18.out).mono ?_); (case side1 => repeat (first | exact (Kd.R_reads' HO_3.out).2.2 | (with_reducible refine Kd.C_alloc ?_ _) | (with_reducible refine Kd.C_drewN ?_ _) | (with_reducible refine Kd.C_drew ?_))); (case side2 => exact (Kd.R_reads' HO_3.out).2.1); rintro e w20 ⟨rfl, hb⟩; refine ⟨_, rfl, ?_⟩; have n0_ := Aside0.mk (Kd.R_below Z54 hb); have n1_ := Aside0.mk (blk_below (g := gb242) (o := .cells #[.slice A0_0 l0_0.length c0_0] 55 (0, 0)) Z41 hb); have n2_ := Aside0.mk (below_step Z30 hb); clear HO_3; clear BK242; clear HB; have HO_3 := n0_; have BK242 := n1_; have HB := n2_; clear n0_ n1_ n2_; (try clear hb); (try clear hb2); (try clear hk); (try clear hi)))
     go_ret
     exact Z56
 ·replace c3 := Bool.eq_false_iff.mpr c3
  subst c3
  have H1 : (some (⟨#[]⟩ : ByteArray)) = some r := by rw [if_neg (show ¬ (false = true) by decide)] at H; exact H
  clear H
  have H := H1
  clear H1
  obtain rfl := Option.some.inj H
  go_enter Tryd.func35, Tryd.ntmps35
  go_wp2_with (first | ((with_reducible refine gate_dst (N := 1) rfl ?_); refine box_event ?hg (N := 1) ?hd (cs := #[.slice A0_0 l0_0.length c0_0]) (t := 55) ?hr ?_; (case hd => rfl); (case hg => rfl); (case hr => exact Z18); intro gb242 hg w21 hbox hb; have n0_ := Aside0.mk (below_step Z2 hb); have n1_ := Aside0.mk (hbox); have n2_ := Aside0.mk ((by rw [hg]; exact (below_size Z2) : w.heap.size ≤ gb242)); have n3_ := Aside0.mk ((by rw [hg]; exact (below_size Z2) : w.heap.size ≤ gb242)); clear HB; have HB := n0_; have BK242 := n1_; have GW242 := n2_; have GE242 := n3_; clear n0_ n1_ n2_ n3_; clear hb hbox hg; have hcz22_0 : w21.cell? ⟨gb242, 0, none⟩ = some (.slice A0_0 l0_0.length c0_0) := (blk_cell BK242.out 0).trans rfl; have hfz22_0 := blk_frozen BK242.out 0) | ((with_reducible refine gate_callee (f := 33) rfl ?_); refine goesL_ (some 7) rfl rfl Tryd.func33 (by kernel_rfl) rfl #[.agg #[.slice A0_0 l0_0.length c0_0]] rfl Z3 ?_; (with_reducible refine (pattern_Right.calls k _ _ l0_0 false _ ?side3 ?side1 ?side2 A2.out).mono ?_); (case side1 => exact Z7); (case side2 => exact Z39); (case side3 => exact GL.below HGL.out Z30); rintro e w23 ⟨rfl, hb⟩; refine ⟨_, rfl, ?_⟩; have n0_ := Aside0.mk (blk_below (g := gb242) (o := .cells #[.slice A0_0 l0_0.length c0_0] 55 (0, 0)) Z41 hb); have n1_ := Aside0.mk (below_step Z30 hb); clear BK242; clear HB; have BK242 := n0_; have HB := n1_; clear n0_ n1_; (try clear hb); (try clear hb2); (try clear hk); (try clear hi)))
  go_ret
  exact Z56
end Go.Proofs.YtmbhjogohfcjgaaDoor.P
