-- Laid by wip/tools/xprint.py, a program of this session's, over the kit's print. Lean checks it.
import Derived.Test.YtmbhjogohfcjgaaDoorL0
import Derived.Test.YtmbhjogohfcjgaaDoorL2
import Derived.Test.YtmbhjogohfcjgaaDoorL6
import Derived.Test.YtmbhjogohfcjgaaDoorL7
namespace Go.Proofs.YtmbhjogohfcjgaaDoor.L
open Go.RowKit Go.Proofs.YtmbhjogohfcjgaaDoorW.PrintWords Go.Proofs.YtmbhjogohfcjgaaDoorW.PrintLast Go.Proofs.YtmbhjogohfcjgaaDoorW.PrintMore
attribute [local go_sem] max2_int min2_int max_two min_two max_three min_three max_four min_four   -- for this text's walks alone
set_option linter.unusedVariables false
set_option linter.unusedSimpArgs false

/-! ### tabardref11_Locale_Write: function 18 -/
def tabardref11_Locale_Write.j0 : Nat → Bool → ByteArray → ByteArray → ByteArray → ByteArray → ByteArray → ByteArray → ByteArray → ByteArray → ByteArray → ByteArray → Bool → Bool → Int → Option (ByteArray)
  | 0, _, _, _, _, _, _, _, _, _, _, _, _, _, _ => none
  | k + 1, x2, x8, x9, x11, x141000, x141001, x141002, x141003, x141004, x141005, x141006, x141007, x141008, x141009 => if x2 = true then ((tabardref11_Locale_Grouped.f k x141000 x141001 x141002 x141003 x141004 x141005 x141006 x141007 x141008 x141009 x8).bind fun t146 => (if x11.size + t146.size ≤ 9223372036854775807 then (if x9.toList = ([] : List UInt8) then (some (x11 ++ t146)) else (if (x11 ++ t146).size + x141001.size ≤ 9223372036854775807 then (if ((x11 ++ t146) ++ x141001).size + x9.size ≤ 9223372036854775807 then (some (((x11 ++ t146) ++ x141001) ++ x9)) else (none)) else (none))) else (none))) else (if x11.size + x8.size ≤ 9223372036854775807 then (if x9.toList = ([] : List UInt8) then (some (x11 ++ x8)) else (if (x11 ++ x8).size + x141001.size ≤ 9223372036854775807 then (if ((x11 ++ x8) ++ x141001).size + x9.size ≤ 9223372036854775807 then (some (((x11 ++ x8) ++ x141001) ++ x9)) else (none)) else (none))) else (none))
def tabardref11_Locale_Write.f (k : Nat) (a0_0 : ByteArray) (a0_1 : ByteArray) (a0_2 : ByteArray) (a0_3 : ByteArray) (a0_4 : ByteArray) (a0_5 : ByteArray) (a0_6 : ByteArray) (a0_7 : Bool) (a0_8 : Bool) (a0_9 : Int) (a1_0 : Bool) (a1_1 : ByteArray) (a1_2 : Int) (a2 : Bool) : Option (ByteArray) := (tabardref7_Right.f k a1_0 a1_1 a1_2).bind fun t142 => (if t142 = true then ((tabardref11_Sides.f k a1_0 a1_1 a1_2).bind fun bt143 => (if bt143.2.2 = true then (if a1_0 = true then (tabardref11_Locale_Write.j0 k a2 bt143.1 bt143.2.1 a0_4 a0_0 a0_1 a0_2 a0_3 a0_4 a0_5 a0_6 a0_7 a0_8 a0_9) else (tabardref11_Locale_Write.j0 k a2 bt143.1 bt143.2.1 (⟨#[]⟩ : ByteArray) a0_0 a0_1 a0_2 a0_3 a0_4 a0_5 a0_6 a0_7 a0_8 a0_9)) else (some (⟨#[]⟩ : ByteArray)))) else (some (⟨#[]⟩ : ByteArray)))
theorem tabardref11_Locale_Write.mono_l : ∀ k, (∀ y0 y1 y2 y3 y4 y5 y6 y7 y8 y9 y10 y11 y12 y13, LeO (tabardref11_Locale_Write.j0 k y0 y1 y2 y3 y4 y5 y6 y7 y8 y9 y10 y11 y12 y13) (tabardref11_Locale_Write.j0 (k + 1) y0 y1 y2 y3 y4 y5 y6 y7 y8 y9 y10 y11 y12 y13))
  | 0 => fun _ _ _ _ _ _ _ _ _ _ _ _ _ _ r h => by simp [tabardref11_Locale_Write.j0] at h
  | k + 1 => by
    have ih0 := tabardref11_Locale_Write.mono_l k
    · intro y0 y1 y2 y3 y4 y5 y6 y7 y8 y9 y10 y11 y12 y13
      unfold tabardref11_Locale_Write.j0
      repeat' first
      | (with_reducible exact ih0 _ _ _ _ _ _ _ _ _ _ _ _ _ _)
      | (with_reducible exact tabardref11_Locale_Grouped.mono _ _ _ _ _ _ _ _ _ _ _ _)
      | (with_reducible exact tabardref11_Sides.mono _ _ _ _)
      | (with_reducible exact tabardref7_Right.mono _ _ _ _)
      | (with_reducible exact LeO.refl _)
      | (with_reducible exact LeO.none _)
      | (with_reducible refine LeO.ite ?_ ?_)
      | (with_reducible refine LeO.bind ?_ (fun _ => ?_))
      | exact ih0 _ _ _ _ _ _ _ _ _ _ _ _ _ _
      | exact tabardref11_Locale_Grouped.mono _ _ _ _ _ _ _ _ _ _ _ _
      | exact tabardref11_Sides.mono _ _ _ _
      | exact tabardref7_Right.mono _ _ _ _
      | exact LeO.none _
      | refine LeO.ite ?_ ?_
      | refine LeO.bind ?_ (fun _ => ?_)
theorem tabardref11_Locale_Write.mono : ∀ a0 a1 a2 a3 a4 a5 a6 a7 a8 a9 a10 a11 a12 a13 k, LeO (tabardref11_Locale_Write.f k a0 a1 a2 a3 a4 a5 a6 a7 a8 a9 a10 a11 a12 a13) (tabardref11_Locale_Write.f (k + 1) a0 a1 a2 a3 a4 a5 a6 a7 a8 a9 a10 a11 a12 a13) := by
  intro a0 a1 a2 a3 a4 a5 a6 a7 a8 a9 a10 a11 a12 a13 k
  have ih0 := tabardref11_Locale_Write.mono_l k
  unfold tabardref11_Locale_Write.f
  repeat' first
      | (with_reducible exact ih0 _ _ _ _ _ _ _ _ _ _ _ _ _ _)
      | (with_reducible exact tabardref11_Locale_Grouped.mono _ _ _ _ _ _ _ _ _ _ _ _)
      | (with_reducible exact tabardref11_Sides.mono _ _ _ _)
      | (with_reducible exact tabardref7_Right.mono _ _ _ _)
      | (with_reducible exact LeO.refl _)
      | (with_reducible exact LeO.none _)
      | (with_reducible refine LeO.ite ?_ ?_)
      | (with_reducible refine LeO.bind ?_ (fun _ => ?_))
      | exact ih0 _ _ _ _ _ _ _ _ _ _ _ _ _ _
      | exact tabardref11_Locale_Grouped.mono _ _ _ _ _ _ _ _ _ _ _ _
      | exact tabardref11_Sides.mono _ _ _ _
      | exact tabardref7_Right.mono _ _ _ _
      | exact LeO.none _
      | refine LeO.ite ?_ ?_
      | refine LeO.bind ?_ (fun _ => ?_)
set_option maxHeartbeats 8000000 in
set_option maxRecDepth 100000 in
theorem tabardref11_Locale_Write.calls (k : Nat) (a0_0 : ByteArray) (a0_1 : ByteArray) (a0_2 : ByteArray) (a0_3 : ByteArray) (a0_4 : ByteArray) (a0_5 : ByteArray) (a0_6 : ByteArray) (a0_7 : Bool) (a0_8 : Bool) (a0_9 : Int) (a1_0 : Bool) (a1_1 : ByteArray) (a1_2 : Int) (a2 : Bool) (r : ByteArray) (w : World) (h : tabardref11_Locale_Write.f k a0_0 a0_1 a0_2 a0_3 a0_4 a0_5 a0_6 a0_7 a0_8 a0_9 a1_0 a1_1 a1_2 a2 = some r) :
    Calls Tryd.prog 18 #[.agg #[.string a0_0, .string a0_1, .string a0_2, .string a0_3, .string a0_4, .string a0_5, .string a0_6, .bool a0_7, .bool a0_8, .int .i64 a0_9], .agg #[.bool a1_0, .string a1_1, .int .i64 a1_2], .bool a2] w fun e w' => e = .returned (.string r) ∧ Below w.heap.size w w' := by
  have hu27 := Tryd.underlying27
  have hu36 := Tryd.underlying36
  have HB := Aside0.mk (Below.refl w.heap.size w)
  have H : ((tabardref7_Right.f k a1_0 a1_1 a1_2).bind fun t142 => (if t142 = true then ((tabardref11_Sides.f k a1_0 a1_1 a1_2).bind fun bt143 => (if bt143.2.2 = true then (if a1_0 = true then (tabardref11_Locale_Write.j0 k a2 bt143.1 bt143.2.1 a0_4 a0_0 a0_1 a0_2 a0_3 a0_4 a0_5 a0_6 a0_7 a0_8 a0_9) else (tabardref11_Locale_Write.j0 k a2 bt143.1 bt143.2.1 (⟨#[]⟩ : ByteArray) a0_0 a0_1 a0_2 a0_3 a0_4 a0_5 a0_6 a0_7 a0_8 a0_9)) else (some (⟨#[]⟩ : ByteArray)))) else (some (⟨#[]⟩ : ByteArray)))) = some r := h
  clear h
  replace H := Option.bind_eq_some_iff.mp H
  obtain ⟨t142, A40, H⟩ := H
  replace H : (if t142 = true then ((tabardref11_Sides.f k a1_0 a1_1 a1_2).bind fun bt143 => (if bt143.2.2 = true then (if a1_0 = true then (tabardref11_Locale_Write.j0 k a2 bt143.1 bt143.2.1 a0_4 a0_0 a0_1 a0_2 a0_3 a0_4 a0_5 a0_6 a0_7 a0_8 a0_9) else (tabardref11_Locale_Write.j0 k a2 bt143.1 bt143.2.1 (⟨#[]⟩ : ByteArray) a0_0 a0_1 a0_2 a0_3 a0_4 a0_5 a0_6 a0_7 a0_8 a0_9)) else (some (⟨#[]⟩ : ByteArray)))) else (some (⟨#[]⟩ : ByteArray))) = some r := H
  have A4 := Aside0.mk A40
  clear A40
  by_cases c5 : t142 = true
  · subst c5
    have H1 : ((tabardref11_Sides.f k a1_0 a1_1 a1_2).bind fun bt143 => (if bt143.2.2 = true then (if a1_0 = true then (tabardref11_Locale_Write.j0 k a2 bt143.1 bt143.2.1 a0_4 a0_0 a0_1 a0_2 a0_3 a0_4 a0_5 a0_6 a0_7 a0_8 a0_9) else (tabardref11_Locale_Write.j0 k a2 bt143.1 bt143.2.1 (⟨#[]⟩ : ByteArray) a0_0 a0_1 a0_2 a0_3 a0_4 a0_5 a0_6 a0_7 a0_8 a0_9)) else (some (⟨#[]⟩ : ByteArray)))) = some r := by rw [if_pos rfl] at H; exact H
    clear H
    have H := H1
    clear H1
    replace H := Option.bind_eq_some_iff.mp H
    obtain ⟨⟨t143, t144, t145⟩, A60, H⟩ := H
    replace H : (if t145 = true then (if a1_0 = true then (tabardref11_Locale_Write.j0 k a2 t143 t144 a0_4 a0_0 a0_1 a0_2 a0_3 a0_4 a0_5 a0_6 a0_7 a0_8 a0_9) else (tabardref11_Locale_Write.j0 k a2 t143 t144 (⟨#[]⟩ : ByteArray) a0_0 a0_1 a0_2 a0_3 a0_4 a0_5 a0_6 a0_7 a0_8 a0_9)) else (some (⟨#[]⟩ : ByteArray))) = some r := H
    have A6 := Aside0.mk A60
    clear A60
    by_cases c7 : t145 = true
    · subst c7
      have H1 : (if a1_0 = true then (tabardref11_Locale_Write.j0 k a2 t143 t144 a0_4 a0_0 a0_1 a0_2 a0_3 a0_4 a0_5 a0_6 a0_7 a0_8 a0_9) else (tabardref11_Locale_Write.j0 k a2 t143 t144 (⟨#[]⟩ : ByteArray) a0_0 a0_1 a0_2 a0_3 a0_4 a0_5 a0_6 a0_7 a0_8 a0_9)) = some r := by rw [if_pos rfl] at H; exact H
      clear H
      have H := H1
      clear H1
      have HC8 := Aside0.mk H
      clear H
      go_enter Tryd.func18, Tryd.ntmps18
      go_upto_if 25 with (first | ((with_reducible refine gate_dst (N := 3) rfl ?_); refine box_event ?hg (N := 3) ?hd (cs := #[.string a0_0, .string a0_1, .string a0_2, .string a0_3, .string a0_4, .string a0_5, .string a0_6, .bool a0_7, .bool a0_8, .int .i64 a0_9]) (t := 27) ?hr ?_; (case hd => rfl); (case hg => rfl); (case hr => first | (go_simp; done) | (go_simp; rfl)); intro gb140 hg w9 hbox hb; have n0_ := Aside0.mk (below_step (by repeat (first | (with_reducible first | exact HB.out | apply below_alloc | apply pw_below_drewN | apply below_drew1) | exact HB.out)) hb); have n1_ := Aside0.mk (hbox); have n2_ := Aside0.mk ((by rw [hg]; exact (below_size (by repeat (first | (with_reducible first | exact HB.out | apply below_alloc | apply pw_below_drewN | apply below_drew1) | exact HB.out))) : w.heap.size ≤ gb140)); have n3_ := Aside0.mk ((by rw [hg]; exact (below_size (by repeat (first | (with_reducible first | exact HB.out | apply below_alloc | apply pw_below_drewN | apply below_drew1) | exact HB.out))) : w.heap.size ≤ gb140)); clear HB; have HB := n0_; have BK140 := n1_; have GW140 := n2_; have GE140 := n3_; clear n0_ n1_ n2_ n3_; clear hb hbox hg) | ((with_reducible refine gate_dst (N := 4) rfl ?_); refine box_event ?hg (N := 4) ?hd (cs := #[.bool a1_0, .string a1_1, .int .i64 a1_2]) (t := 36) ?hr ?_; (case hd => rfl); (case hg => rfl); (case hr => first | (go_simp; done) | (go_simp; rfl)); intro gb141 hg w10 hbox hb; have n0_ := Aside0.mk (blk_below (g := gb140) (o := .cells #[.string a0_0, .string a0_1, .string a0_2, .string a0_3, .string a0_4, .string a0_5, .string a0_6, .bool a0_7, .bool a0_8, .int .i64 a0_9] 27 (0, 0)) (by (with_reducible repeat (first | refine blk_drewN ?_ _ | refine blk_drew ?_ | refine blk_alloc ?_ _)); exact BK140.out) hb); have n1_ := Aside0.mk (below_step (by repeat (first | (with_reducible first | exact HB.out | apply below_alloc | apply pw_below_drewN | apply below_drew1 | refine below_set ?_ GE140.out) | exact HB.out)) hb); have n2_ := Aside0.mk (hbox); have n3_ := Aside0.mk ((by rw [hg]; exact (below_size (by repeat (first | (with_reducible first | exact HB.out | apply below_alloc | apply pw_below_drewN | apply below_drew1 | refine below_set ?_ GE140.out) | exact HB.out))) : w.heap.size ≤ gb141)); have n4_ := Aside0.mk ((by rw [hg]; exact (below_size (by repeat (first | (with_reducible first | exact HB.out | apply below_alloc | apply pw_below_drewN | apply below_drew1 | refine below_set ?_ GE140.out) | exact HB.out))) : w.heap.size ≤ gb141)); have n5_ := Aside0.mk ((by rw [hg]; exact Nat.ne_of_lt (blk_lt (g := gb140) (o := .cells #[.string a0_0, .string a0_1, .string a0_2, .string a0_3, .string a0_4, .string a0_5, .string a0_6, .bool a0_7, .bool a0_8, .int .i64 a0_9] 27 (0, 0)) (by (with_reducible repeat (first | refine blk_drewN ?_ _ | refine blk_drew ?_ | refine blk_alloc ?_ _)); exact BK140.out)) : gb140 ≠ gb141)); have n6_ := Aside0.mk ((by rw [hg]; exact Nat.ne_of_gt (blk_lt (g := gb140) (o := .cells #[.string a0_0, .string a0_1, .string a0_2, .string a0_3, .string a0_4, .string a0_5, .string a0_6, .bool a0_7, .bool a0_8, .int .i64 a0_9] 27 (0, 0)) (by (with_reducible repeat (first | refine blk_drewN ?_ _ | refine blk_drew ?_ | refine blk_alloc ?_ _)); exact BK140.out)) : gb141 ≠ gb140)); clear BK140; clear HB; have BK140 := n0_; have HB := n1_; have BK141 := n2_; have GW141 := n3_; have GE141 := n4_; have NB140_141 := n5_; have NB141_140 := n6_; clear n0_ n1_ n2_ n3_ n4_ n5_ n6_; clear hb hbox hg; have hnb11 := NB141_140.out; have hnc11 := NB140_141.out; have hcz12_0 : w10.cell? ⟨gb141, 0, none⟩ = some (.bool a1_0) := (blk_cell BK141.out 0).trans rfl; have hcz12_1 : w10.cell? ⟨gb141, 1, none⟩ = some (.string a1_1) := (blk_cell BK141.out 1).trans rfl; have hcz12_2 : w10.cell? ⟨gb141, 2, none⟩ = some (.int .i64 a1_2) := (blk_cell BK141.out 2).trans rfl; have hfz12_0 := blk_frozen BK141.out 0; have hfz12_1 := blk_frozen BK141.out 1; have hfz12_2 := blk_frozen BK141.out 2) | ((with_reducible refine gate_callee (f := 21) rfl ?_); refine goesL_ (some 13) rfl rfl Tryd.func21 (by kernel_rfl) rfl #[.agg #[.bool a1_0, .string a1_1, .int .i64 a1_2]] rfl (by (try simp only [List.map_toArray, List.map_cons, List.map_nil]); first | done | rfl | (simp only [List.length_drop, List.length_take]; rfl)) ?_; (with_reducible refine (tabardref7_Right.calls k a1_0 a1_1 a1_2 true _ A4.out).mono ?_); rintro e w13 ⟨rfl, hb⟩; refine ⟨_, rfl, ?_⟩; have n0_ := Aside0.mk (blk_below (g := gb140) (o := .cells #[.string a0_0, .string a0_1, .string a0_2, .string a0_3, .string a0_4, .string a0_5, .string a0_6, .bool a0_7, .bool a0_8, .int .i64 a0_9] 27 (0, 0)) (by (with_reducible repeat (first | refine blk_drewN ?_ _ | refine blk_drew ?_ | refine blk_alloc ?_ _)); exact BK140.out) hb); have n1_ := Aside0.mk (blk_below (g := gb141) (o := .cells #[.bool a1_0, .string a1_1, .int .i64 a1_2] 36 (0, 0)) (by (with_reducible repeat (first | refine blk_drewN ?_ _ | refine blk_drew ?_ | refine blk_alloc ?_ _)); exact BK141.out) hb); have n2_ := Aside0.mk (below_step (by repeat (first | (with_reducible first | exact HB.out | apply below_alloc | apply pw_below_drewN | apply below_drew1 | refine below_set ?_ GE140.out | refine below_set ?_ GE141.out) | exact HB.out)) hb); clear BK140; clear BK141; clear HB; have BK140 := n0_; have BK141 := n1_; have HB := n2_; clear n0_ n1_ n2_; (try clear hb); (try clear hb2); (try clear hk); (try clear hi); have hcz14_0 : w13.cell? ⟨gb141, 0, none⟩ = some (.bool a1_0) := (blk_cell BK141.out 0).trans rfl; have hcz14_1 : w13.cell? ⟨gb141, 1, none⟩ = some (.string a1_1) := (blk_cell BK141.out 1).trans rfl; have hcz14_2 : w13.cell? ⟨gb141, 2, none⟩ = some (.int .i64 a1_2) := (blk_cell BK141.out 2).trans rfl; have hfz14_0 := blk_frozen BK141.out 0; have hfz14_1 := blk_frozen BK141.out 1; have hfz14_2 := blk_frozen BK141.out 2) | ((with_reducible refine gate_callee (f := 46) rfl ?_); refine goesL_ (some 18) rfl rfl Tryd.func46 (by kernel_rfl) rfl #[.agg #[.bool a1_0, .string a1_1, .int .i64 a1_2]] rfl (by (try simp only [List.map_toArray, List.map_cons, List.map_nil]); first | done | rfl | (simp only [List.length_drop, List.length_take]; rfl)) ?_; (with_reducible refine (tabardref11_Sides.calls k a1_0 a1_1 a1_2 t143 t144 true _ A6.out).mono ?_); rintro e w15 ⟨rfl, hb⟩; refine ⟨_, rfl, ?_⟩; have n0_ := Aside0.mk (blk_below (g := gb140) (o := .cells #[.string a0_0, .string a0_1, .string a0_2, .string a0_3, .string a0_4, .string a0_5, .string a0_6, .bool a0_7, .bool a0_8, .int .i64 a0_9] 27 (0, 0)) (by (with_reducible repeat (first | refine blk_drewN ?_ _ | refine blk_drew ?_ | refine blk_alloc ?_ _)); exact BK140.out) hb); have n1_ := Aside0.mk (blk_below (g := gb141) (o := .cells #[.bool a1_0, .string a1_1, .int .i64 a1_2] 36 (0, 0)) (by (with_reducible repeat (first | refine blk_drewN ?_ _ | refine blk_drew ?_ | refine blk_alloc ?_ _)); exact BK141.out) hb); have n2_ := Aside0.mk (below_step (by repeat (first | (with_reducible first | exact HB.out | apply below_alloc | apply pw_below_drewN | apply below_drew1 | refine below_set ?_ GE140.out | refine below_set ?_ GE141.out) | exact HB.out)) hb); clear BK140; clear BK141; clear HB; have BK140 := n0_; have BK141 := n1_; have HB := n2_; clear n0_ n1_ n2_; (try clear hb); (try clear hb2); (try clear hk); (try clear hi); have hcz16_0 : w15.cell? ⟨gb141, 0, none⟩ = some (.bool a1_0) := (blk_cell BK141.out 0).trans rfl; have hcz16_1 : w15.cell? ⟨gb141, 1, none⟩ = some (.string a1_1) := (blk_cell BK141.out 1).trans rfl; have hcz16_2 : w15.cell? ⟨gb141, 2, none⟩ = some (.int .i64 a1_2) := (blk_cell BK141.out 2).trans rfl; have hfz16_0 := blk_frozen BK141.out 0; have hfz16_1 := blk_frozen BK141.out 1; have hfz16_2 := blk_frozen BK141.out 2))
      (try simp only [Act.put, List.setIfInBounds_toArray, List.set_cons_zero, List.set_cons_succ])
      go_cut [11] (fun v11 wc => ∃ (kq : Nat) (x11_7 : ByteArray), v11 = .string x11_7 ∧ Aside0 (tabardref11_Locale_Write.j0 kq a2 t143 t144 x11_7 a0_0 a0_1 a0_2 a0_3 a0_4 a0_5 a0_6 a0_7 a0_8 a0_9 = some r) ∧ Aside0 (kq ≤ k) ∧ Aside0 (wc.heap[gb140]? = some (.cells #[.string a0_0, .string a0_1, .string a0_2, .string a0_3, .string a0_4, .string a0_5, .string a0_6, .bool a0_7, .bool a0_8, .int .i64 a0_9] 27 (0, 0))) ∧ Aside0 (wc.heap[gb141]? = some (.cells #[.bool a1_0, .string a1_1, .int .i64 a1_2] 36 (0, 0))) ∧ Aside0 (Below w.heap.size w wc))
      case first =>
        have H := HC8.out
        clear HC8
        by_cases c17 : a1_0 = true
        · subst c17
          have H1 : (tabardref11_Locale_Write.j0 k a2 t143 t144 a0_4 a0_0 a0_1 a0_2 a0_3 a0_4 a0_5 a0_6 a0_7 a0_8 a0_9) = some r := by rw [if_pos rfl] at H; exact H
          clear H
          have H := H1
          clear H1
          have H' := Aside0.mk H
          clear H
          have hnb18 := NB140_141.out
          have hnc18 := NB141_140.out
          have hcz19_0 : w15.cell? ⟨gb140, 0, none⟩ = some (.string a0_0) := (blk_cell BK140.out 0).trans rfl
          have hcz19_1 : w15.cell? ⟨gb140, 1, none⟩ = some (.string a0_1) := (blk_cell BK140.out 1).trans rfl
          have hcz19_2 : w15.cell? ⟨gb140, 2, none⟩ = some (.string a0_2) := (blk_cell BK140.out 2).trans rfl
          have hcz19_3 : w15.cell? ⟨gb140, 3, none⟩ = some (.string a0_3) := (blk_cell BK140.out 3).trans rfl
          have hcz19_4 : w15.cell? ⟨gb140, 4, none⟩ = some (.string a0_4) := (blk_cell BK140.out 4).trans rfl
          have hcz19_5 : w15.cell? ⟨gb140, 5, none⟩ = some (.string a0_5) := (blk_cell BK140.out 5).trans rfl
          have hcz19_6 : w15.cell? ⟨gb140, 6, none⟩ = some (.string a0_6) := (blk_cell BK140.out 6).trans rfl
          have hcz19_7 : w15.cell? ⟨gb140, 7, none⟩ = some (.bool a0_7) := (blk_cell BK140.out 7).trans rfl
          have hcz19_8 : w15.cell? ⟨gb140, 8, none⟩ = some (.bool a0_8) := (blk_cell BK140.out 8).trans rfl
          have hcz19_9 : w15.cell? ⟨gb140, 9, none⟩ = some (.int .i64 a0_9) := (blk_cell BK140.out 9).trans rfl
          have hfz19_0 := blk_frozen BK140.out 0
          have hfz19_1 := blk_frozen BK140.out 1
          have hfz19_2 := blk_frozen BK140.out 2
          have hfz19_3 := blk_frozen BK140.out 3
          have hfz19_4 := blk_frozen BK140.out 4
          have hfz19_5 := blk_frozen BK140.out 5
          have hfz19_6 := blk_frozen BK140.out 6
          have hfz19_7 := blk_frozen BK140.out 7
          have hfz19_8 := blk_frozen BK140.out 8
          have hfz19_9 := blk_frozen BK140.out 9
          go_wp2
          go_meet
          case rel => exact ⟨_, (a0_4), (by first | rfl | (simp; done) | (simp [*]; done) | (simp [bne]; done)), H', ⟨by first | omega | exact Nat.le_refl _⟩, ⟨by (with_reducible repeat (first | refine blk_drewN ?_ _ | refine blk_drew ?_ | refine blk_alloc ?_ _)); exact BK140.out⟩, ⟨by (with_reducible repeat (first | refine blk_drewN ?_ _ | refine blk_drew ?_ | refine blk_alloc ?_ _)); exact BK141.out⟩, ⟨by repeat (first | (with_reducible first | exact HB.out | apply below_alloc | apply pw_below_drewN | apply below_drew1 | refine below_set ?_ GE140.out | refine below_set ?_ GE141.out) | exact HB.out)⟩⟩
        · replace c17 := Bool.eq_false_iff.mpr c17
          subst c17
          have H1 : (tabardref11_Locale_Write.j0 k a2 t143 t144 (⟨#[]⟩ : ByteArray) a0_0 a0_1 a0_2 a0_3 a0_4 a0_5 a0_6 a0_7 a0_8 a0_9) = some r := by rw [if_neg (show ¬ (false = true) by decide)] at H; exact H
          clear H
          have H := H1
          clear H1
          have H' := Aside0.mk H
          clear H
          go_wp2
          go_meet
          case rel => exact ⟨_, ((⟨#[]⟩ : ByteArray)), (by first | rfl | (simp; done) | (simp [*]; done) | (simp [bne]; done)), H', ⟨by first | omega | exact Nat.le_refl _⟩, ⟨by (with_reducible repeat (first | refine blk_drewN ?_ _ | refine blk_drew ?_ | refine blk_alloc ?_ _)); exact BK140.out⟩, ⟨by (with_reducible repeat (first | refine blk_drewN ?_ _ | refine blk_drew ?_ | refine blk_alloc ?_ _)); exact BK141.out⟩, ⟨by repeat (first | (with_reducible first | exact HB.out | apply below_alloc | apply pw_below_drewN | apply below_drew1 | refine below_set ?_ GE140.out | refine below_set ?_ GE141.out) | exact HB.out)⟩⟩
      case rest =>
        clear HC8
        try clear c1
        try clear c2
        try clear p2
        try clear c4
        try clear c5
        try clear c7
        try clear c11
        try clear c17
        try clear c18
        try clear hcz12_0
        try clear hcz12_1
        try clear hcz12_2
        try clear hcz14_0
        try clear hcz14_1
        try clear hcz14_2
        try clear hcz16_0
        try clear hcz16_1
        try clear hcz16_2
        try clear hcz19_0
        try clear hcz19_1
        try clear hcz19_2
        try clear hcz19_3
        try clear hcz19_4
        try clear hcz19_5
        try clear hcz19_6
        try clear hcz19_7
        try clear hcz19_8
        try clear hcz19_9
        try clear hfz12_0
        try clear hfz12_1
        try clear hfz12_2
        try clear hfz14_0
        try clear hfz14_1
        try clear hfz14_2
        try clear hfz16_0
        try clear hfz16_1
        try clear hfz16_2
        try clear hfz19_0
        try clear hfz19_1
        try clear hfz19_2
        try clear hfz19_3
        try clear hfz19_4
        try clear hfz19_5
        try clear hfz19_6
        try clear hfz19_7
        try clear hfz19_8
        try clear hfz19_9
        obtain ⟨kq, x11_7, rfl, HA, HJ7, BK140, BK141, HB⟩ := hcut
        cases kq with
        | zero => exact absurd HA.out (by simp [tabardref11_Locale_Write.j0])
        | succ kj7 =>
          have H := HA.out
          clear HA
          simp only [tabardref11_Locale_Write.j0] at H
          by_cases c20 : a2 = true
          · subst c20
            have H1 : ((tabardref11_Locale_Grouped.f kj7 a0_0 a0_1 a0_2 a0_3 a0_4 a0_5 a0_6 a0_7 a0_8 a0_9 t143).bind fun t146 => (if x11_7.size + t146.size ≤ 9223372036854775807 then (if t144.toList = ([] : List UInt8) then (some (x11_7 ++ t146)) else (if (x11_7 ++ t146).size + a0_1.size ≤ 9223372036854775807 then (if ((x11_7 ++ t146) ++ a0_1).size + t144.size ≤ 9223372036854775807 then (some (((x11_7 ++ t146) ++ a0_1) ++ t144)) else (none)) else (none))) else (none))) = some r := by rw [if_pos rfl] at H; exact H
            clear H
            have H := H1
            clear H1
            replace H := Option.bind_eq_some_iff.mp H
            obtain ⟨t146, A210, H⟩ := H
            replace H : (if x11_7.size + t146.size ≤ 9223372036854775807 then (if t144.toList = ([] : List UInt8) then (some (x11_7 ++ t146)) else (if (x11_7 ++ t146).size + a0_1.size ≤ 9223372036854775807 then (if ((x11_7 ++ t146) ++ a0_1).size + t144.size ≤ 9223372036854775807 then (some (((x11_7 ++ t146) ++ a0_1) ++ t144)) else (none)) else (none))) else (none)) = some r := H
            have A21 := Aside0.mk A210
            clear A210
            by_cases c22 : x11_7.size + t146.size ≤ 9223372036854775807
            · rw [if_pos c22] at H
              have c22b0 := eq_true c22
              have c22b1 : decide (x11_7.size + t146.size ≤ 9223372036854775807) = true := decide_eq_true c22
              try have c22b2 : (9223372036854775807 < x11_7.size + t146.size) = False := eq_false (Nat.not_lt.2 c22)
              by_cases c23 : t144.toList = ([] : List UInt8)
              · rw [if_pos c23] at H
                have c23b0 : (t144.toList == ([] : List UInt8)) = true := beq_iff_eq.mpr c23
                (try have c23b8 : t144.toList.isEmpty = true := by simpa using c23)
                have c23b1 : (t144.toList != ([] : List UInt8)) = false := bne_eq_false_iff_eq.mpr c23
                clear c23
                obtain rfl := Option.some.inj H
                have hnb24 := NB140_141.out
                have hnc24 := NB141_140.out
                have hcz25_0 : wc.cell? ⟨gb140, 0, none⟩ = some (.string a0_0) := (blk_cell BK140.out 0).trans rfl
                have hcz25_1 : wc.cell? ⟨gb140, 1, none⟩ = some (.string a0_1) := (blk_cell BK140.out 1).trans rfl
                have hcz25_2 : wc.cell? ⟨gb140, 2, none⟩ = some (.string a0_2) := (blk_cell BK140.out 2).trans rfl
                have hcz25_3 : wc.cell? ⟨gb140, 3, none⟩ = some (.string a0_3) := (blk_cell BK140.out 3).trans rfl
                have hcz25_4 : wc.cell? ⟨gb140, 4, none⟩ = some (.string a0_4) := (blk_cell BK140.out 4).trans rfl
                have hcz25_5 : wc.cell? ⟨gb140, 5, none⟩ = some (.string a0_5) := (blk_cell BK140.out 5).trans rfl
                have hcz25_6 : wc.cell? ⟨gb140, 6, none⟩ = some (.string a0_6) := (blk_cell BK140.out 6).trans rfl
                have hcz25_7 : wc.cell? ⟨gb140, 7, none⟩ = some (.bool a0_7) := (blk_cell BK140.out 7).trans rfl
                have hcz25_8 : wc.cell? ⟨gb140, 8, none⟩ = some (.bool a0_8) := (blk_cell BK140.out 8).trans rfl
                have hcz25_9 : wc.cell? ⟨gb140, 9, none⟩ = some (.int .i64 a0_9) := (blk_cell BK140.out 9).trans rfl
                have hfz25_0 := blk_frozen BK140.out 0
                have hfz25_1 := blk_frozen BK140.out 1
                have hfz25_2 := blk_frozen BK140.out 2
                have hfz25_3 := blk_frozen BK140.out 3
                have hfz25_4 := blk_frozen BK140.out 4
                have hfz25_5 := blk_frozen BK140.out 5
                have hfz25_6 := blk_frozen BK140.out 6
                have hfz25_7 := blk_frozen BK140.out 7
                have hfz25_8 := blk_frozen BK140.out 8
                have hfz25_9 := blk_frozen BK140.out 9
                go_wp2_with (first | ((with_reducible refine gate_callee (f := 16) rfl ?_); refine goesL_ (some 31) rfl rfl Tryd.func16 (by kernel_rfl) rfl #[.agg #[.string a0_0, .string a0_1, .string a0_2, .string a0_3, .string a0_4, .string a0_5, .string a0_6, .bool a0_7, .bool a0_8, .int .i64 a0_9], .string t143] rfl (by (try simp only [List.map_toArray, List.map_cons, List.map_nil]); first | done | rfl | (simp only [List.length_drop, List.length_take]; rfl)) ?_; (with_reducible refine (tabardref11_Locale_Grouped.calls kj7 a0_0 a0_1 a0_2 a0_3 a0_4 a0_5 a0_6 a0_7 a0_8 a0_9 t143 t146 _ A21.out).mono ?_); rintro e w26 ⟨rfl, hb⟩; refine ⟨_, rfl, ?_⟩; have n0_ := Aside0.mk (blk_below (g := gb140) (o := .cells #[.string a0_0, .string a0_1, .string a0_2, .string a0_3, .string a0_4, .string a0_5, .string a0_6, .bool a0_7, .bool a0_8, .int .i64 a0_9] 27 (0, 0)) (by (with_reducible repeat (first | refine blk_drewN ?_ _ | refine blk_drew ?_ | refine blk_alloc ?_ _)); exact BK140.out) hb); have n1_ := Aside0.mk (blk_below (g := gb141) (o := .cells #[.bool a1_0, .string a1_1, .int .i64 a1_2] 36 (0, 0)) (by (with_reducible repeat (first | refine blk_drewN ?_ _ | refine blk_drew ?_ | refine blk_alloc ?_ _)); exact BK141.out) hb); have n2_ := Aside0.mk (below_step (by repeat (first | (with_reducible first | exact HB.out | apply below_alloc | apply pw_below_drewN | apply below_drew1 | refine below_set ?_ GE140.out | refine below_set ?_ GE141.out) | exact HB.out)) hb); clear BK140; clear BK141; clear HB; have BK140 := n0_; have BK141 := n1_; have HB := n2_; clear n0_ n1_ n2_; (try clear hb); (try clear hb2); (try clear hk); (try clear hi)))
                go_ret
                exact ⟨by first | rfl | (simp [errW_none, errW_some] <;> rfl) | (simp [*, errW_none, errW_some] <;> rfl), by repeat (first | (with_reducible first | exact HB.out | apply below_alloc | apply pw_below_drewN | apply below_drew1 | refine below_set ?_ GE140.out | refine below_set ?_ GE141.out) | exact HB.out)⟩
              · rw [if_neg c23] at H
                have c23b0 : (t144.toList == ([] : List UInt8)) = false := beq_eq_false_iff_ne.mpr c23
                (try have c23b8 : t144.toList.isEmpty = false := by simpa using c23)
                have c23b1 : (t144.toList != ([] : List UInt8)) = true := bne_iff_ne.mpr c23
                by_cases c27 : (x11_7 ++ t146).size + a0_1.size ≤ 9223372036854775807
                · rw [if_pos c27] at H
                  have c27b0 := eq_true c27
                  have c27b1 : decide ((x11_7 ++ t146).size + a0_1.size ≤ 9223372036854775807) = true := decide_eq_true c27
                  try have c27b2 : (9223372036854775807 < (x11_7 ++ t146).size + a0_1.size) = False := eq_false (Nat.not_lt.2 c27)
                  by_cases c28 : ((x11_7 ++ t146) ++ a0_1).size + t144.size ≤ 9223372036854775807
                  · rw [if_pos c28] at H
                    have c28b0 := eq_true c28
                    have c28b1 : decide (((x11_7 ++ t146) ++ a0_1).size + t144.size ≤ 9223372036854775807) = true := decide_eq_true c28
                    try have c28b2 : (9223372036854775807 < ((x11_7 ++ t146) ++ a0_1).size + t144.size) = False := eq_false (Nat.not_lt.2 c28)
                    obtain rfl := Option.some.inj H
                    have hnb29 := NB140_141.out
                    have hnc29 := NB141_140.out
                    have hcz30_0 : wc.cell? ⟨gb140, 0, none⟩ = some (.string a0_0) := (blk_cell BK140.out 0).trans rfl
                    have hcz30_1 : wc.cell? ⟨gb140, 1, none⟩ = some (.string a0_1) := (blk_cell BK140.out 1).trans rfl
                    have hcz30_2 : wc.cell? ⟨gb140, 2, none⟩ = some (.string a0_2) := (blk_cell BK140.out 2).trans rfl
                    have hcz30_3 : wc.cell? ⟨gb140, 3, none⟩ = some (.string a0_3) := (blk_cell BK140.out 3).trans rfl
                    have hcz30_4 : wc.cell? ⟨gb140, 4, none⟩ = some (.string a0_4) := (blk_cell BK140.out 4).trans rfl
                    have hcz30_5 : wc.cell? ⟨gb140, 5, none⟩ = some (.string a0_5) := (blk_cell BK140.out 5).trans rfl
                    have hcz30_6 : wc.cell? ⟨gb140, 6, none⟩ = some (.string a0_6) := (blk_cell BK140.out 6).trans rfl
                    have hcz30_7 : wc.cell? ⟨gb140, 7, none⟩ = some (.bool a0_7) := (blk_cell BK140.out 7).trans rfl
                    have hcz30_8 : wc.cell? ⟨gb140, 8, none⟩ = some (.bool a0_8) := (blk_cell BK140.out 8).trans rfl
                    have hcz30_9 : wc.cell? ⟨gb140, 9, none⟩ = some (.int .i64 a0_9) := (blk_cell BK140.out 9).trans rfl
                    have hfz30_0 := blk_frozen BK140.out 0
                    have hfz30_1 := blk_frozen BK140.out 1
                    have hfz30_2 := blk_frozen BK140.out 2
                    have hfz30_3 := blk_frozen BK140.out 3
                    have hfz30_4 := blk_frozen BK140.out 4
                    have hfz30_5 := blk_frozen BK140.out 5
                    have hfz30_6 := blk_frozen BK140.out 6
                    have hfz30_7 := blk_frozen BK140.out 7
                    have hfz30_8 := blk_frozen BK140.out 8
                    have hfz30_9 := blk_frozen BK140.out 9
                    go_wp2_with (first | ((with_reducible refine gate_callee (f := 16) rfl ?_); refine goesL_ (some 31) rfl rfl Tryd.func16 (by kernel_rfl) rfl #[.agg #[.string a0_0, .string a0_1, .string a0_2, .string a0_3, .string a0_4, .string a0_5, .string a0_6, .bool a0_7, .bool a0_8, .int .i64 a0_9], .string t143] rfl (by (try simp only [List.map_toArray, List.map_cons, List.map_nil]); first | done | rfl | (simp only [List.length_drop, List.length_take]; rfl)) ?_; (with_reducible refine (tabardref11_Locale_Grouped.calls kj7 a0_0 a0_1 a0_2 a0_3 a0_4 a0_5 a0_6 a0_7 a0_8 a0_9 t143 t146 _ A21.out).mono ?_); rintro e w31 ⟨rfl, hb⟩; refine ⟨_, rfl, ?_⟩; have n0_ := Aside0.mk (blk_below (g := gb140) (o := .cells #[.string a0_0, .string a0_1, .string a0_2, .string a0_3, .string a0_4, .string a0_5, .string a0_6, .bool a0_7, .bool a0_8, .int .i64 a0_9] 27 (0, 0)) (by (with_reducible repeat (first | refine blk_drewN ?_ _ | refine blk_drew ?_ | refine blk_alloc ?_ _)); exact BK140.out) hb); have n1_ := Aside0.mk (blk_below (g := gb141) (o := .cells #[.bool a1_0, .string a1_1, .int .i64 a1_2] 36 (0, 0)) (by (with_reducible repeat (first | refine blk_drewN ?_ _ | refine blk_drew ?_ | refine blk_alloc ?_ _)); exact BK141.out) hb); have n2_ := Aside0.mk (below_step (by repeat (first | (with_reducible first | exact HB.out | apply below_alloc | apply pw_below_drewN | apply below_drew1 | refine below_set ?_ GE140.out | refine below_set ?_ GE141.out) | exact HB.out)) hb); clear BK140; clear BK141; clear HB; have BK140 := n0_; have BK141 := n1_; have HB := n2_; clear n0_ n1_ n2_; (try clear hb); (try clear hb2); (try clear hk); (try clear hi); have hcz32_0 : w31.cell? ⟨gb140, 0, none⟩ = some (.string a0_0) := (blk_cell BK140.out 0).trans rfl; have hcz32_1 : w31.cell? ⟨gb140, 1, none⟩ = some (.string a0_1) := (blk_cell BK140.out 1).trans rfl; have hcz32_2 : w31.cell? ⟨gb140, 2, none⟩ = some (.string a0_2) := (blk_cell BK140.out 2).trans rfl; have hcz32_3 : w31.cell? ⟨gb140, 3, none⟩ = some (.string a0_3) := (blk_cell BK140.out 3).trans rfl; have hcz32_4 : w31.cell? ⟨gb140, 4, none⟩ = some (.string a0_4) := (blk_cell BK140.out 4).trans rfl; have hcz32_5 : w31.cell? ⟨gb140, 5, none⟩ = some (.string a0_5) := (blk_cell BK140.out 5).trans rfl; have hcz32_6 : w31.cell? ⟨gb140, 6, none⟩ = some (.string a0_6) := (blk_cell BK140.out 6).trans rfl; have hcz32_7 : w31.cell? ⟨gb140, 7, none⟩ = some (.bool a0_7) := (blk_cell BK140.out 7).trans rfl; have hcz32_8 : w31.cell? ⟨gb140, 8, none⟩ = some (.bool a0_8) := (blk_cell BK140.out 8).trans rfl; have hcz32_9 : w31.cell? ⟨gb140, 9, none⟩ = some (.int .i64 a0_9) := (blk_cell BK140.out 9).trans rfl; have hfz32_0 := blk_frozen BK140.out 0; have hfz32_1 := blk_frozen BK140.out 1; have hfz32_2 := blk_frozen BK140.out 2; have hfz32_3 := blk_frozen BK140.out 3; have hfz32_4 := blk_frozen BK140.out 4; have hfz32_5 := blk_frozen BK140.out 5; have hfz32_6 := blk_frozen BK140.out 6; have hfz32_7 := blk_frozen BK140.out 7; have hfz32_8 := blk_frozen BK140.out 8; have hfz32_9 := blk_frozen BK140.out 9))
                    go_ret
                    exact ⟨by first | rfl | (simp [errW_none, errW_some] <;> rfl) | (simp [*, errW_none, errW_some] <;> rfl), by repeat (first | (with_reducible first | exact HB.out | apply below_alloc | apply pw_below_drewN | apply below_drew1 | refine below_set ?_ GE140.out | refine below_set ?_ GE141.out) | exact HB.out)⟩
                  · rw [if_neg c28] at H
                    exact absurd H (by simp)
                · rw [if_neg c27] at H
                  exact absurd H (by simp)
            · rw [if_neg c22] at H
              exact absurd H (by simp)
          · replace c20 := Bool.eq_false_iff.mpr c20
            subst c20
            have H1 : (if x11_7.size + t143.size ≤ 9223372036854775807 then (if t144.toList = ([] : List UInt8) then (some (x11_7 ++ t143)) else (if (x11_7 ++ t143).size + a0_1.size ≤ 9223372036854775807 then (if ((x11_7 ++ t143) ++ a0_1).size + t144.size ≤ 9223372036854775807 then (some (((x11_7 ++ t143) ++ a0_1) ++ t144)) else (none)) else (none))) else (none)) = some r := by rw [if_neg (show ¬ (false = true) by decide)] at H; exact H
            clear H
            have H := H1
            clear H1
            by_cases c33 : x11_7.size + t143.size ≤ 9223372036854775807
            · rw [if_pos c33] at H
              have c33b0 := eq_true c33
              have c33b1 : decide (x11_7.size + t143.size ≤ 9223372036854775807) = true := decide_eq_true c33
              try have c33b2 : (9223372036854775807 < x11_7.size + t143.size) = False := eq_false (Nat.not_lt.2 c33)
              by_cases c34 : t144.toList = ([] : List UInt8)
              · rw [if_pos c34] at H
                have c34b0 : (t144.toList == ([] : List UInt8)) = true := beq_iff_eq.mpr c34
                (try have c34b8 : t144.toList.isEmpty = true := by simpa using c34)
                have c34b1 : (t144.toList != ([] : List UInt8)) = false := bne_eq_false_iff_eq.mpr c34
                clear c34
                obtain rfl := Option.some.inj H
                go_wp2
                go_ret
                exact ⟨by first | rfl | (simp [errW_none, errW_some] <;> rfl) | (simp [*, errW_none, errW_some] <;> rfl), by repeat (first | (with_reducible first | exact HB.out | apply below_alloc | apply pw_below_drewN | apply below_drew1 | refine below_set ?_ GE140.out | refine below_set ?_ GE141.out) | exact HB.out)⟩
              · rw [if_neg c34] at H
                have c34b0 : (t144.toList == ([] : List UInt8)) = false := beq_eq_false_iff_ne.mpr c34
                (try have c34b8 : t144.toList.isEmpty = false := by simpa using c34)
                have c34b1 : (t144.toList != ([] : List UInt8)) = true := bne_iff_ne.mpr c34
                by_cases c35 : (x11_7 ++ t143).size + a0_1.size ≤ 9223372036854775807
                · rw [if_pos c35] at H
                  have c35b0 := eq_true c35
                  have c35b1 : decide ((x11_7 ++ t143).size + a0_1.size ≤ 9223372036854775807) = true := decide_eq_true c35
                  try have c35b2 : (9223372036854775807 < (x11_7 ++ t143).size + a0_1.size) = False := eq_false (Nat.not_lt.2 c35)
                  by_cases c36 : ((x11_7 ++ t143) ++ a0_1).size + t144.size ≤ 9223372036854775807
                  · rw [if_pos c36] at H
                    have c36b0 := eq_true c36
                    have c36b1 : decide (((x11_7 ++ t143) ++ a0_1).size + t144.size ≤ 9223372036854775807) = true := decide_eq_true c36
                    try have c36b2 : (9223372036854775807 < ((x11_7 ++ t143) ++ a0_1).size + t144.size) = False := eq_false (Nat.not_lt.2 c36)
                    obtain rfl := Option.some.inj H
                    have hnb37 := NB140_141.out
                    have hnc37 := NB141_140.out
                    have hcz38_0 : wc.cell? ⟨gb140, 0, none⟩ = some (.string a0_0) := (blk_cell BK140.out 0).trans rfl
                    have hcz38_1 : wc.cell? ⟨gb140, 1, none⟩ = some (.string a0_1) := (blk_cell BK140.out 1).trans rfl
                    have hcz38_2 : wc.cell? ⟨gb140, 2, none⟩ = some (.string a0_2) := (blk_cell BK140.out 2).trans rfl
                    have hcz38_3 : wc.cell? ⟨gb140, 3, none⟩ = some (.string a0_3) := (blk_cell BK140.out 3).trans rfl
                    have hcz38_4 : wc.cell? ⟨gb140, 4, none⟩ = some (.string a0_4) := (blk_cell BK140.out 4).trans rfl
                    have hcz38_5 : wc.cell? ⟨gb140, 5, none⟩ = some (.string a0_5) := (blk_cell BK140.out 5).trans rfl
                    have hcz38_6 : wc.cell? ⟨gb140, 6, none⟩ = some (.string a0_6) := (blk_cell BK140.out 6).trans rfl
                    have hcz38_7 : wc.cell? ⟨gb140, 7, none⟩ = some (.bool a0_7) := (blk_cell BK140.out 7).trans rfl
                    have hcz38_8 : wc.cell? ⟨gb140, 8, none⟩ = some (.bool a0_8) := (blk_cell BK140.out 8).trans rfl
                    have hcz38_9 : wc.cell? ⟨gb140, 9, none⟩ = some (.int .i64 a0_9) := (blk_cell BK140.out 9).trans rfl
                    have hfz38_0 := blk_frozen BK140.out 0
                    have hfz38_1 := blk_frozen BK140.out 1
                    have hfz38_2 := blk_frozen BK140.out 2
                    have hfz38_3 := blk_frozen BK140.out 3
                    have hfz38_4 := blk_frozen BK140.out 4
                    have hfz38_5 := blk_frozen BK140.out 5
                    have hfz38_6 := blk_frozen BK140.out 6
                    have hfz38_7 := blk_frozen BK140.out 7
                    have hfz38_8 := blk_frozen BK140.out 8
                    have hfz38_9 := blk_frozen BK140.out 9
                    go_wp2
                    go_ret
                    exact ⟨by first | rfl | (simp [errW_none, errW_some] <;> rfl) | (simp [*, errW_none, errW_some] <;> rfl), by repeat (first | (with_reducible first | exact HB.out | apply below_alloc | apply pw_below_drewN | apply below_drew1 | refine below_set ?_ GE140.out | refine below_set ?_ GE141.out) | exact HB.out)⟩
                  · rw [if_neg c36] at H
                    exact absurd H (by simp)
                · rw [if_neg c35] at H
                  exact absurd H (by simp)
            · rw [if_neg c33] at H
              exact absurd H (by simp)
    · replace c7 := Bool.eq_false_iff.mpr c7
      subst c7
      have H1 : (some (⟨#[]⟩ : ByteArray)) = some r := by rw [if_neg (show ¬ (false = true) by decide)] at H; exact H
      clear H
      have H := H1
      clear H1
      obtain rfl := Option.some.inj H
      go_enter Tryd.func18, Tryd.ntmps18
      go_wp2_with (first | ((with_reducible refine gate_dst (N := 3) rfl ?_); refine box_event ?hg (N := 3) ?hd (cs := #[.string a0_0, .string a0_1, .string a0_2, .string a0_3, .string a0_4, .string a0_5, .string a0_6, .bool a0_7, .bool a0_8, .int .i64 a0_9]) (t := 27) ?hr ?_; (case hd => rfl); (case hg => rfl); (case hr => first | (go_simp; done) | (go_simp; rfl)); intro gb140 hg w39 hbox hb; have n0_ := Aside0.mk (below_step (by repeat (first | (with_reducible first | exact HB.out | apply below_alloc | apply pw_below_drewN | apply below_drew1) | exact HB.out)) hb); have n1_ := Aside0.mk (hbox); have n2_ := Aside0.mk ((by rw [hg]; exact (below_size (by repeat (first | (with_reducible first | exact HB.out | apply below_alloc | apply pw_below_drewN | apply below_drew1) | exact HB.out))) : w.heap.size ≤ gb140)); have n3_ := Aside0.mk ((by rw [hg]; exact (below_size (by repeat (first | (with_reducible first | exact HB.out | apply below_alloc | apply pw_below_drewN | apply below_drew1) | exact HB.out))) : w.heap.size ≤ gb140)); clear HB; have HB := n0_; have BK140 := n1_; have GW140 := n2_; have GE140 := n3_; clear n0_ n1_ n2_ n3_; clear hb hbox hg) | ((with_reducible refine gate_dst (N := 4) rfl ?_); refine box_event ?hg (N := 4) ?hd (cs := #[.bool a1_0, .string a1_1, .int .i64 a1_2]) (t := 36) ?hr ?_; (case hd => rfl); (case hg => rfl); (case hr => first | (go_simp; done) | (go_simp; rfl)); intro gb141 hg w40 hbox hb; have n0_ := Aside0.mk (blk_below (g := gb140) (o := .cells #[.string a0_0, .string a0_1, .string a0_2, .string a0_3, .string a0_4, .string a0_5, .string a0_6, .bool a0_7, .bool a0_8, .int .i64 a0_9] 27 (0, 0)) (by (with_reducible repeat (first | refine blk_drewN ?_ _ | refine blk_drew ?_ | refine blk_alloc ?_ _)); exact BK140.out) hb); have n1_ := Aside0.mk (below_step (by repeat (first | (with_reducible first | exact HB.out | apply below_alloc | apply pw_below_drewN | apply below_drew1 | refine below_set ?_ GE140.out) | exact HB.out)) hb); have n2_ := Aside0.mk (hbox); have n3_ := Aside0.mk ((by rw [hg]; exact (below_size (by repeat (first | (with_reducible first | exact HB.out | apply below_alloc | apply pw_below_drewN | apply below_drew1 | refine below_set ?_ GE140.out) | exact HB.out))) : w.heap.size ≤ gb141)); have n4_ := Aside0.mk ((by rw [hg]; exact (below_size (by repeat (first | (with_reducible first | exact HB.out | apply below_alloc | apply pw_below_drewN | apply below_drew1 | refine below_set ?_ GE140.out) | exact HB.out))) : w.heap.size ≤ gb141)); have n5_ := Aside0.mk ((by rw [hg]; exact Nat.ne_of_lt (blk_lt (g := gb140) (o := .cells #[.string a0_0, .string a0_1, .string a0_2, .string a0_3, .string a0_4, .string a0_5, .string a0_6, .bool a0_7, .bool a0_8, .int .i64 a0_9] 27 (0, 0)) (by (with_reducible repeat (first | refine blk_drewN ?_ _ | refine blk_drew ?_ | refine blk_alloc ?_ _)); exact BK140.out)) : gb140 ≠ gb141)); have n6_ := Aside0.mk ((by rw [hg]; exact Nat.ne_of_gt (blk_lt (g := gb140) (o := .cells #[.string a0_0, .string a0_1, .string a0_2, .string a0_3, .string a0_4, .string a0_5, .string a0_6, .bool a0_7, .bool a0_8, .int .i64 a0_9] 27 (0, 0)) (by (with_reducible repeat (first | refine blk_drewN ?_ _ | refine blk_drew ?_ | refine blk_alloc ?_ _)); exact BK140.out)) : gb141 ≠ gb140)); clear BK140; clear HB; have BK140 := n0_; have HB := n1_; have BK141 := n2_; have GW141 := n3_; have GE141 := n4_; have NB140_141 := n5_; have NB141_140 := n6_; clear n0_ n1_ n2_ n3_ n4_ n5_ n6_; clear hb hbox hg; have hnb41 := NB141_140.out; have hnc41 := NB140_141.out; have hcz42_0 : w40.cell? ⟨gb141, 0, none⟩ = some (.bool a1_0) := (blk_cell BK141.out 0).trans rfl; have hcz42_1 : w40.cell? ⟨gb141, 1, none⟩ = some (.string a1_1) := (blk_cell BK141.out 1).trans rfl; have hcz42_2 : w40.cell? ⟨gb141, 2, none⟩ = some (.int .i64 a1_2) := (blk_cell BK141.out 2).trans rfl; have hfz42_0 := blk_frozen BK141.out 0; have hfz42_1 := blk_frozen BK141.out 1; have hfz42_2 := blk_frozen BK141.out 2) | ((with_reducible refine gate_callee (f := 21) rfl ?_); refine goesL_ (some 13) rfl rfl Tryd.func21 (by kernel_rfl) rfl #[.agg #[.bool a1_0, .string a1_1, .int .i64 a1_2]] rfl (by (try simp only [List.map_toArray, List.map_cons, List.map_nil]); first | done | rfl | (simp only [List.length_drop, List.length_take]; rfl)) ?_; (with_reducible refine (tabardref7_Right.calls k a1_0 a1_1 a1_2 true _ A4.out).mono ?_); rintro e w43 ⟨rfl, hb⟩; refine ⟨_, rfl, ?_⟩; have n0_ := Aside0.mk (blk_below (g := gb140) (o := .cells #[.string a0_0, .string a0_1, .string a0_2, .string a0_3, .string a0_4, .string a0_5, .string a0_6, .bool a0_7, .bool a0_8, .int .i64 a0_9] 27 (0, 0)) (by (with_reducible repeat (first | refine blk_drewN ?_ _ | refine blk_drew ?_ | refine blk_alloc ?_ _)); exact BK140.out) hb); have n1_ := Aside0.mk (blk_below (g := gb141) (o := .cells #[.bool a1_0, .string a1_1, .int .i64 a1_2] 36 (0, 0)) (by (with_reducible repeat (first | refine blk_drewN ?_ _ | refine blk_drew ?_ | refine blk_alloc ?_ _)); exact BK141.out) hb); have n2_ := Aside0.mk (below_step (by repeat (first | (with_reducible first | exact HB.out | apply below_alloc | apply pw_below_drewN | apply below_drew1 | refine below_set ?_ GE140.out | refine below_set ?_ GE141.out) | exact HB.out)) hb); clear BK140; clear BK141; clear HB; have BK140 := n0_; have BK141 := n1_; have HB := n2_; clear n0_ n1_ n2_; (try clear hb); (try clear hb2); (try clear hk); (try clear hi); have hcz44_0 : w43.cell? ⟨gb141, 0, none⟩ = some (.bool a1_0) := (blk_cell BK141.out 0).trans rfl; have hcz44_1 : w43.cell? ⟨gb141, 1, none⟩ = some (.string a1_1) := (blk_cell BK141.out 1).trans rfl; have hcz44_2 : w43.cell? ⟨gb141, 2, none⟩ = some (.int .i64 a1_2) := (blk_cell BK141.out 2).trans rfl; have hfz44_0 := blk_frozen BK141.out 0; have hfz44_1 := blk_frozen BK141.out 1; have hfz44_2 := blk_frozen BK141.out 2) | ((with_reducible refine gate_callee (f := 46) rfl ?_); refine goesL_ (some 18) rfl rfl Tryd.func46 (by kernel_rfl) rfl #[.agg #[.bool a1_0, .string a1_1, .int .i64 a1_2]] rfl (by (try simp only [List.map_toArray, List.map_cons, List.map_nil]); first | done | rfl | (simp only [List.length_drop, List.length_take]; rfl)) ?_; (with_reducible refine (tabardref11_Sides.calls k a1_0 a1_1 a1_2 t143 t144 false _ A6.out).mono ?_); rintro e w45 ⟨rfl, hb⟩; refine ⟨_, rfl, ?_⟩; have n0_ := Aside0.mk (blk_below (g := gb140) (o := .cells #[.string a0_0, .string a0_1, .string a0_2, .string a0_3, .string a0_4, .string a0_5, .string a0_6, .bool a0_7, .bool a0_8, .int .i64 a0_9] 27 (0, 0)) (by (with_reducible repeat (first | refine blk_drewN ?_ _ | refine blk_drew ?_ | refine blk_alloc ?_ _)); exact BK140.out) hb); have n1_ := Aside0.mk (blk_below (g := gb141) (o := .cells #[.bool a1_0, .string a1_1, .int .i64 a1_2] 36 (0, 0)) (by (with_reducible repeat (first | refine blk_drewN ?_ _ | refine blk_drew ?_ | refine blk_alloc ?_ _)); exact BK141.out) hb); have n2_ := Aside0.mk (below_step (by repeat (first | (with_reducible first | exact HB.out | apply below_alloc | apply pw_below_drewN | apply below_drew1 | refine below_set ?_ GE140.out | refine below_set ?_ GE141.out) | exact HB.out)) hb); clear BK140; clear BK141; clear HB; have BK140 := n0_; have BK141 := n1_; have HB := n2_; clear n0_ n1_ n2_; (try clear hb); (try clear hb2); (try clear hk); (try clear hi)))
      go_ret
      exact ⟨by first | rfl | (simp [errW_none, errW_some] <;> rfl) | (simp [*, errW_none, errW_some] <;> rfl), by repeat (first | (with_reducible first | exact HB.out | apply below_alloc | apply pw_below_drewN | apply below_drew1 | refine below_set ?_ GE140.out | refine below_set ?_ GE141.out) | exact HB.out)⟩
  · replace c5 := Bool.eq_false_iff.mpr c5
    subst c5
    have H1 : (some (⟨#[]⟩ : ByteArray)) = some r := by rw [if_neg (show ¬ (false = true) by decide)] at H; exact H
    clear H
    have H := H1
    clear H1
    obtain rfl := Option.some.inj H
    go_enter Tryd.func18, Tryd.ntmps18
    go_wp2_with (first | ((with_reducible refine gate_dst (N := 3) rfl ?_); refine box_event ?hg (N := 3) ?hd (cs := #[.string a0_0, .string a0_1, .string a0_2, .string a0_3, .string a0_4, .string a0_5, .string a0_6, .bool a0_7, .bool a0_8, .int .i64 a0_9]) (t := 27) ?hr ?_; (case hd => rfl); (case hg => rfl); (case hr => first | (go_simp; done) | (go_simp; rfl)); intro gb140 hg w46 hbox hb; have n0_ := Aside0.mk (below_step (by repeat (first | (with_reducible first | exact HB.out | apply below_alloc | apply pw_below_drewN | apply below_drew1) | exact HB.out)) hb); have n1_ := Aside0.mk (hbox); have n2_ := Aside0.mk ((by rw [hg]; exact (below_size (by repeat (first | (with_reducible first | exact HB.out | apply below_alloc | apply pw_below_drewN | apply below_drew1) | exact HB.out))) : w.heap.size ≤ gb140)); have n3_ := Aside0.mk ((by rw [hg]; exact (below_size (by repeat (first | (with_reducible first | exact HB.out | apply below_alloc | apply pw_below_drewN | apply below_drew1) | exact HB.out))) : w.heap.size ≤ gb140)); clear HB; have HB := n0_; have BK140 := n1_; have GW140 := n2_; have GE140 := n3_; clear n0_ n1_ n2_ n3_; clear hb hbox hg) | ((with_reducible refine gate_dst (N := 4) rfl ?_); refine box_event ?hg (N := 4) ?hd (cs := #[.bool a1_0, .string a1_1, .int .i64 a1_2]) (t := 36) ?hr ?_; (case hd => rfl); (case hg => rfl); (case hr => first | (go_simp; done) | (go_simp; rfl)); intro gb141 hg w47 hbox hb; have n0_ := Aside0.mk (blk_below (g := gb140) (o := .cells #[.string a0_0, .string a0_1, .string a0_2, .string a0_3, .string a0_4, .string a0_5, .string a0_6, .bool a0_7, .bool a0_8, .int .i64 a0_9] 27 (0, 0)) (by (with_reducible repeat (first | refine blk_drewN ?_ _ | refine blk_drew ?_ | refine blk_alloc ?_ _)); exact BK140.out) hb); have n1_ := Aside0.mk (below_step (by repeat (first | (with_reducible first | exact HB.out | apply below_alloc | apply pw_below_drewN | apply below_drew1 | refine below_set ?_ GE140.out) | exact HB.out)) hb); have n2_ := Aside0.mk (hbox); have n3_ := Aside0.mk ((by rw [hg]; exact (below_size (by repeat (first | (with_reducible first | exact HB.out | apply below_alloc | apply pw_below_drewN | apply below_drew1 | refine below_set ?_ GE140.out) | exact HB.out))) : w.heap.size ≤ gb141)); have n4_ := Aside0.mk ((by rw [hg]; exact (below_size (by repeat (first | (with_reducible first | exact HB.out | apply below_alloc | apply pw_below_drewN | apply below_drew1 | refine below_set ?_ GE140.out) | exact HB.out))) : w.heap.size ≤ gb141)); have n5_ := Aside0.mk ((by rw [hg]; exact Nat.ne_of_lt (blk_lt (g := gb140) (o := .cells #[.string a0_0, .string a0_1, .string a0_2, .string a0_3, .string a0_4, .string a0_5, .string a0_6, .bool a0_7, .bool a0_8, .int .i64 a0_9] 27 (0, 0)) (by (with_reducible repeat (first | refine blk_drewN ?_ _ | refine blk_drew ?_ | refine blk_alloc ?_ _)); exact BK140.out)) : gb140 ≠ gb141)); have n6_ := Aside0.mk ((by rw [hg]; exact Nat.ne_of_gt (blk_lt (g := gb140) (o := .cells #[.string a0_0, .string a0_1, .string a0_2, .string a0_3, .string a0_4, .string a0_5, .string a0_6, .bool a0_7, .bool a0_8, .int .i64 a0_9] 27 (0, 0)) (by (with_reducible repeat (first | refine blk_drewN ?_ _ | refine blk_drew ?_ | refine blk_alloc ?_ _)); exact BK140.out)) : gb141 ≠ gb140)); clear BK140; clear HB; have BK140 := n0_; have HB := n1_; have BK141 := n2_; have GW141 := n3_; have GE141 := n4_; have NB140_141 := n5_; have NB141_140 := n6_; clear n0_ n1_ n2_ n3_ n4_ n5_ n6_; clear hb hbox hg; have hnb48 := NB141_140.out; have hnc48 := NB140_141.out; have hcz49_0 : w47.cell? ⟨gb141, 0, none⟩ = some (.bool a1_0) := (blk_cell BK141.out 0).trans rfl; have hcz49_1 : w47.cell? ⟨gb141, 1, none⟩ = some (.string a1_1) := (blk_cell BK141.out 1).trans rfl; have hcz49_2 : w47.cell? ⟨gb141, 2, none⟩ = some (.int .i64 a1_2) := (blk_cell BK141.out 2).trans rfl; have hfz49_0 := blk_frozen BK141.out 0; have hfz49_1 := blk_frozen BK141.out 1; have hfz49_2 := blk_frozen BK141.out 2) | ((with_reducible refine gate_callee (f := 21) rfl ?_); refine goesL_ (some 13) rfl rfl Tryd.func21 (by kernel_rfl) rfl #[.agg #[.bool a1_0, .string a1_1, .int .i64 a1_2]] rfl (by (try simp only [List.map_toArray, List.map_cons, List.map_nil]); first | done | rfl | (simp only [List.length_drop, List.length_take]; rfl)) ?_; (with_reducible refine (tabardref7_Right.calls k a1_0 a1_1 a1_2 false _ A4.out).mono ?_); rintro e w50 ⟨rfl, hb⟩; refine ⟨_, rfl, ?_⟩; have n0_ := Aside0.mk (blk_below (g := gb140) (o := .cells #[.string a0_0, .string a0_1, .string a0_2, .string a0_3, .string a0_4, .string a0_5, .string a0_6, .bool a0_7, .bool a0_8, .int .i64 a0_9] 27 (0, 0)) (by (with_reducible repeat (first | refine blk_drewN ?_ _ | refine blk_drew ?_ | refine blk_alloc ?_ _)); exact BK140.out) hb); have n1_ := Aside0.mk (blk_below (g := gb141) (o := .cells #[.bool a1_0, .string a1_1, .int .i64 a1_2] 36 (0, 0)) (by (with_reducible repeat (first | refine blk_drewN ?_ _ | refine blk_drew ?_ | refine blk_alloc ?_ _)); exact BK141.out) hb); have n2_ := Aside0.mk (below_step (by repeat (first | (with_reducible first | exact HB.out | apply below_alloc | apply pw_below_drewN | apply below_drew1 | refine below_set ?_ GE140.out | refine below_set ?_ GE141.out) | exact HB.out)) hb); clear BK140; clear BK141; clear HB; have BK140 := n0_; have BK141 := n1_; have HB := n2_; clear n0_ n1_ n2_; (try clear hb); (try clear hb2); (try clear hk); (try clear hi)))
    go_ret
    exact ⟨by first | rfl | (simp [errW_none, errW_some] <;> rfl) | (simp [*, errW_none, errW_some] <;> rfl), by repeat (first | (with_reducible first | exact HB.out | apply below_alloc | apply pw_below_drewN | apply below_drew1 | refine below_set ?_ GE140.out | refine below_set ?_ GE141.out) | exact HB.out)⟩

/-! ### tabardref11_Locale_Money: function 20 -/
def tabardref11_Locale_Money.f (a0_0 : ByteArray) (a0_1 : ByteArray) (a0_2 : ByteArray) (a0_3 : ByteArray) (a0_4 : ByteArray) (a0_5 : ByteArray) (a0_6 : ByteArray) (a0_7 : Bool) (a0_8 : Bool) (a0_9 : Int) (a1 : ByteArray) : Option (ByteArray) := if a0_8 = true then (if a0_7 = true then (if a0_6.size + 2 ≤ 9223372036854775807 then (if (a0_6 ++ (⟨#[194, 160]⟩ : ByteArray)).size + a1.size ≤ 9223372036854775807 then (some ((a0_6 ++ (⟨#[194, 160]⟩ : ByteArray)) ++ a1)) else (none)) else (none)) else (if a1.size + 2 ≤ 9223372036854775807 then (if (a1 ++ (⟨#[194, 160]⟩ : ByteArray)).size + a0_6.size ≤ 9223372036854775807 then (some ((a1 ++ (⟨#[194, 160]⟩ : ByteArray)) ++ a0_6)) else (none)) else (none))) else (if a0_7 = true then (if a0_6.size + 0 ≤ 9223372036854775807 then (if (a0_6 ++ (⟨#[]⟩ : ByteArray)).size + a1.size ≤ 9223372036854775807 then (some ((a0_6 ++ (⟨#[]⟩ : ByteArray)) ++ a1)) else (none)) else (none)) else (if a1.size + 0 ≤ 9223372036854775807 then (if (a1 ++ (⟨#[]⟩ : ByteArray)).size + a0_6.size ≤ 9223372036854775807 then (some ((a1 ++ (⟨#[]⟩ : ByteArray)) ++ a0_6)) else (none)) else (none)))
set_option maxHeartbeats 8000000 in
set_option maxRecDepth 100000 in
theorem tabardref11_Locale_Money.calls (a0_0 : ByteArray) (a0_1 : ByteArray) (a0_2 : ByteArray) (a0_3 : ByteArray) (a0_4 : ByteArray) (a0_5 : ByteArray) (a0_6 : ByteArray) (a0_7 : Bool) (a0_8 : Bool) (a0_9 : Int) (a1 : ByteArray) (r : ByteArray) (w : World) (h : tabardref11_Locale_Money.f a0_0 a0_1 a0_2 a0_3 a0_4 a0_5 a0_6 a0_7 a0_8 a0_9 a1 = some r) :
    Calls Tryd.prog 20 #[.agg #[.string a0_0, .string a0_1, .string a0_2, .string a0_3, .string a0_4, .string a0_5, .string a0_6, .bool a0_7, .bool a0_8, .int .i64 a0_9], .string a1] w fun e w' => e = .returned (.string r) ∧ Below w.heap.size w w' := by
  have hu27 := Tryd.underlying27
  have HB := Aside0.mk (Below.refl w.heap.size w)
  have H : (if a0_8 = true then (if a0_7 = true then (if a0_6.size + 2 ≤ 9223372036854775807 then (if (a0_6 ++ (⟨#[194, 160]⟩ : ByteArray)).size + a1.size ≤ 9223372036854775807 then (some ((a0_6 ++ (⟨#[194, 160]⟩ : ByteArray)) ++ a1)) else (none)) else (none)) else (if a1.size + 2 ≤ 9223372036854775807 then (if (a1 ++ (⟨#[194, 160]⟩ : ByteArray)).size + a0_6.size ≤ 9223372036854775807 then (some ((a1 ++ (⟨#[194, 160]⟩ : ByteArray)) ++ a0_6)) else (none)) else (none))) else (if a0_7 = true then (if a0_6.size + 0 ≤ 9223372036854775807 then (if (a0_6 ++ (⟨#[]⟩ : ByteArray)).size + a1.size ≤ 9223372036854775807 then (some ((a0_6 ++ (⟨#[]⟩ : ByteArray)) ++ a1)) else (none)) else (none)) else (if a1.size + 0 ≤ 9223372036854775807 then (if (a1 ++ (⟨#[]⟩ : ByteArray)).size + a0_6.size ≤ 9223372036854775807 then (some ((a1 ++ (⟨#[]⟩ : ByteArray)) ++ a0_6)) else (none)) else (none)))) = some r := h
  clear h
  by_cases c3 : a0_8 = true
  · subst c3
    have H1 : (if a0_7 = true then (if a0_6.size + 2 ≤ 9223372036854775807 then (if (a0_6 ++ (⟨#[194, 160]⟩ : ByteArray)).size + a1.size ≤ 9223372036854775807 then (some ((a0_6 ++ (⟨#[194, 160]⟩ : ByteArray)) ++ a1)) else (none)) else (none)) else (if a1.size + 2 ≤ 9223372036854775807 then (if (a1 ++ (⟨#[194, 160]⟩ : ByteArray)).size + a0_6.size ≤ 9223372036854775807 then (some ((a1 ++ (⟨#[194, 160]⟩ : ByteArray)) ++ a0_6)) else (none)) else (none))) = some r := by rw [if_pos rfl] at H; exact H
    clear H
    have H := H1
    clear H1
    by_cases c4 : a0_7 = true
    · subst c4
      have H1 : (if a0_6.size + 2 ≤ 9223372036854775807 then (if (a0_6 ++ (⟨#[194, 160]⟩ : ByteArray)).size + a1.size ≤ 9223372036854775807 then (some ((a0_6 ++ (⟨#[194, 160]⟩ : ByteArray)) ++ a1)) else (none)) else (none)) = some r := by rw [if_pos rfl] at H; exact H
      clear H
      have H := H1
      clear H1
      by_cases c5 : a0_6.size + 2 ≤ 9223372036854775807
      · rw [if_pos c5] at H
        have c5b0 := eq_true c5
        have c5b1 : decide (a0_6.size + 2 ≤ 9223372036854775807) = true := decide_eq_true c5
        try have c5b2 : (9223372036854775807 < a0_6.size + 2) = False := eq_false (Nat.not_lt.2 c5)
        by_cases c6 : (a0_6 ++ (⟨#[194, 160]⟩ : ByteArray)).size + a1.size ≤ 9223372036854775807
        · rw [if_pos c6] at H
          have c6b0 := eq_true c6
          have c6b1 : decide ((a0_6 ++ (⟨#[194, 160]⟩ : ByteArray)).size + a1.size ≤ 9223372036854775807) = true := decide_eq_true c6
          try have c6b2 : (9223372036854775807 < (a0_6 ++ (⟨#[194, 160]⟩ : ByteArray)).size + a1.size) = False := eq_false (Nat.not_lt.2 c6)
          obtain rfl := Option.some.inj H
          go_enter Tryd.func20, Tryd.ntmps20
          go_wp2_with (first | ((with_reducible refine gate_dst (N := 2) rfl ?_); refine box_event ?hg (N := 2) ?hd (cs := #[.string a0_0, .string a0_1, .string a0_2, .string a0_3, .string a0_4, .string a0_5, .string a0_6, .bool true, .bool true, .int .i64 a0_9]) (t := 27) ?hr ?_; (case hd => rfl); (case hg => rfl); (case hr => first | (go_simp; done) | (go_simp; rfl)); intro gb147 hg w7 hbox hb; have n0_ := Aside0.mk (below_step (by repeat (first | (with_reducible first | exact HB.out | apply below_alloc | apply pw_below_drewN | apply below_drew1) | exact HB.out)) hb); have n1_ := Aside0.mk (hbox); have n2_ := Aside0.mk ((by rw [hg]; exact (below_size (by repeat (first | (with_reducible first | exact HB.out | apply below_alloc | apply pw_below_drewN | apply below_drew1) | exact HB.out))) : w.heap.size ≤ gb147)); have n3_ := Aside0.mk ((by rw [hg]; exact (below_size (by repeat (first | (with_reducible first | exact HB.out | apply below_alloc | apply pw_below_drewN | apply below_drew1) | exact HB.out))) : w.heap.size ≤ gb147)); clear HB; have HB := n0_; have BK147 := n1_; have GW147 := n2_; have GE147 := n3_; clear n0_ n1_ n2_ n3_; clear hb hbox hg; have hcz8_0 : w7.cell? ⟨gb147, 0, none⟩ = some (.string a0_0) := (blk_cell BK147.out 0).trans rfl; have hcz8_1 : w7.cell? ⟨gb147, 1, none⟩ = some (.string a0_1) := (blk_cell BK147.out 1).trans rfl; have hcz8_2 : w7.cell? ⟨gb147, 2, none⟩ = some (.string a0_2) := (blk_cell BK147.out 2).trans rfl; have hcz8_3 : w7.cell? ⟨gb147, 3, none⟩ = some (.string a0_3) := (blk_cell BK147.out 3).trans rfl; have hcz8_4 : w7.cell? ⟨gb147, 4, none⟩ = some (.string a0_4) := (blk_cell BK147.out 4).trans rfl; have hcz8_5 : w7.cell? ⟨gb147, 5, none⟩ = some (.string a0_5) := (blk_cell BK147.out 5).trans rfl; have hcz8_6 : w7.cell? ⟨gb147, 6, none⟩ = some (.string a0_6) := (blk_cell BK147.out 6).trans rfl; have hcz8_7 : w7.cell? ⟨gb147, 7, none⟩ = some (.bool true) := (blk_cell BK147.out 7).trans rfl; have hcz8_8 : w7.cell? ⟨gb147, 8, none⟩ = some (.bool true) := (blk_cell BK147.out 8).trans rfl; have hcz8_9 : w7.cell? ⟨gb147, 9, none⟩ = some (.int .i64 a0_9) := (blk_cell BK147.out 9).trans rfl; have hfz8_0 := blk_frozen BK147.out 0; have hfz8_1 := blk_frozen BK147.out 1; have hfz8_2 := blk_frozen BK147.out 2; have hfz8_3 := blk_frozen BK147.out 3; have hfz8_4 := blk_frozen BK147.out 4; have hfz8_5 := blk_frozen BK147.out 5; have hfz8_6 := blk_frozen BK147.out 6; have hfz8_7 := blk_frozen BK147.out 7; have hfz8_8 := blk_frozen BK147.out 8; have hfz8_9 := blk_frozen BK147.out 9))
          go_ret
          exact ⟨by first | rfl | (simp [errW_none, errW_some] <;> rfl) | (simp [*, errW_none, errW_some] <;> rfl), by repeat (first | (with_reducible first | exact HB.out | apply below_alloc | apply pw_below_drewN | apply below_drew1 | refine below_set ?_ GE147.out) | exact HB.out)⟩
        · rw [if_neg c6] at H
          exact absurd H (by simp)
      · rw [if_neg c5] at H
        exact absurd H (by simp)
    · replace c4 := Bool.eq_false_iff.mpr c4
      subst c4
      have H1 : (if a1.size + 2 ≤ 9223372036854775807 then (if (a1 ++ (⟨#[194, 160]⟩ : ByteArray)).size + a0_6.size ≤ 9223372036854775807 then (some ((a1 ++ (⟨#[194, 160]⟩ : ByteArray)) ++ a0_6)) else (none)) else (none)) = some r := by rw [if_neg (show ¬ (false = true) by decide)] at H; exact H
      clear H
      have H := H1
      clear H1
      by_cases c9 : a1.size + 2 ≤ 9223372036854775807
      · rw [if_pos c9] at H
        have c9b0 := eq_true c9
        have c9b1 : decide (a1.size + 2 ≤ 9223372036854775807) = true := decide_eq_true c9
        try have c9b2 : (9223372036854775807 < a1.size + 2) = False := eq_false (Nat.not_lt.2 c9)
        by_cases c10 : (a1 ++ (⟨#[194, 160]⟩ : ByteArray)).size + a0_6.size ≤ 9223372036854775807
        · rw [if_pos c10] at H
          have c10b0 := eq_true c10
          have c10b1 : decide ((a1 ++ (⟨#[194, 160]⟩ : ByteArray)).size + a0_6.size ≤ 9223372036854775807) = true := decide_eq_true c10
          try have c10b2 : (9223372036854775807 < (a1 ++ (⟨#[194, 160]⟩ : ByteArray)).size + a0_6.size) = False := eq_false (Nat.not_lt.2 c10)
          obtain rfl := Option.some.inj H
          go_enter Tryd.func20, Tryd.ntmps20
          go_wp2_with (first | ((with_reducible refine gate_dst (N := 2) rfl ?_); refine box_event ?hg (N := 2) ?hd (cs := #[.string a0_0, .string a0_1, .string a0_2, .string a0_3, .string a0_4, .string a0_5, .string a0_6, .bool false, .bool true, .int .i64 a0_9]) (t := 27) ?hr ?_; (case hd => rfl); (case hg => rfl); (case hr => first | (go_simp; done) | (go_simp; rfl)); intro gb147 hg w11 hbox hb; have n0_ := Aside0.mk (below_step (by repeat (first | (with_reducible first | exact HB.out | apply below_alloc | apply pw_below_drewN | apply below_drew1) | exact HB.out)) hb); have n1_ := Aside0.mk (hbox); have n2_ := Aside0.mk ((by rw [hg]; exact (below_size (by repeat (first | (with_reducible first | exact HB.out | apply below_alloc | apply pw_below_drewN | apply below_drew1) | exact HB.out))) : w.heap.size ≤ gb147)); have n3_ := Aside0.mk ((by rw [hg]; exact (below_size (by repeat (first | (with_reducible first | exact HB.out | apply below_alloc | apply pw_below_drewN | apply below_drew1) | exact HB.out))) : w.heap.size ≤ gb147)); clear HB; have HB := n0_; have BK147 := n1_; have GW147 := n2_; have GE147 := n3_; clear n0_ n1_ n2_ n3_; clear hb hbox hg; have hcz12_0 : w11.cell? ⟨gb147, 0, none⟩ = some (.string a0_0) := (blk_cell BK147.out 0).trans rfl; have hcz12_1 : w11.cell? ⟨gb147, 1, none⟩ = some (.string a0_1) := (blk_cell BK147.out 1).trans rfl; have hcz12_2 : w11.cell? ⟨gb147, 2, none⟩ = some (.string a0_2) := (blk_cell BK147.out 2).trans rfl; have hcz12_3 : w11.cell? ⟨gb147, 3, none⟩ = some (.string a0_3) := (blk_cell BK147.out 3).trans rfl; have hcz12_4 : w11.cell? ⟨gb147, 4, none⟩ = some (.string a0_4) := (blk_cell BK147.out 4).trans rfl; have hcz12_5 : w11.cell? ⟨gb147, 5, none⟩ = some (.string a0_5) := (blk_cell BK147.out 5).trans rfl; have hcz12_6 : w11.cell? ⟨gb147, 6, none⟩ = some (.string a0_6) := (blk_cell BK147.out 6).trans rfl; have hcz12_7 : w11.cell? ⟨gb147, 7, none⟩ = some (.bool false) := (blk_cell BK147.out 7).trans rfl; have hcz12_8 : w11.cell? ⟨gb147, 8, none⟩ = some (.bool true) := (blk_cell BK147.out 8).trans rfl; have hcz12_9 : w11.cell? ⟨gb147, 9, none⟩ = some (.int .i64 a0_9) := (blk_cell BK147.out 9).trans rfl; have hfz12_0 := blk_frozen BK147.out 0; have hfz12_1 := blk_frozen BK147.out 1; have hfz12_2 := blk_frozen BK147.out 2; have hfz12_3 := blk_frozen BK147.out 3; have hfz12_4 := blk_frozen BK147.out 4; have hfz12_5 := blk_frozen BK147.out 5; have hfz12_6 := blk_frozen BK147.out 6; have hfz12_7 := blk_frozen BK147.out 7; have hfz12_8 := blk_frozen BK147.out 8; have hfz12_9 := blk_frozen BK147.out 9))
          go_ret
          exact ⟨by first | rfl | (simp [errW_none, errW_some] <;> rfl) | (simp [*, errW_none, errW_some] <;> rfl), by repeat (first | (with_reducible first | exact HB.out | apply below_alloc | apply pw_below_drewN | apply below_drew1 | refine below_set ?_ GE147.out) | exact HB.out)⟩
        · rw [if_neg c10] at H
          exact absurd H (by simp)
      · rw [if_neg c9] at H
        exact absurd H (by simp)
  · replace c3 := Bool.eq_false_iff.mpr c3
    subst c3
    have H1 : (if a0_7 = true then (if a0_6.size + 0 ≤ 9223372036854775807 then (if (a0_6 ++ (⟨#[]⟩ : ByteArray)).size + a1.size ≤ 9223372036854775807 then (some ((a0_6 ++ (⟨#[]⟩ : ByteArray)) ++ a1)) else (none)) else (none)) else (if a1.size + 0 ≤ 9223372036854775807 then (if (a1 ++ (⟨#[]⟩ : ByteArray)).size + a0_6.size ≤ 9223372036854775807 then (some ((a1 ++ (⟨#[]⟩ : ByteArray)) ++ a0_6)) else (none)) else (none))) = some r := by rw [if_neg (show ¬ (false = true) by decide)] at H; exact H
    clear H
    have H := H1
    clear H1
    by_cases c13 : a0_7 = true
    · subst c13
      have H1 : (if a0_6.size + 0 ≤ 9223372036854775807 then (if (a0_6 ++ (⟨#[]⟩ : ByteArray)).size + a1.size ≤ 9223372036854775807 then (some ((a0_6 ++ (⟨#[]⟩ : ByteArray)) ++ a1)) else (none)) else (none)) = some r := by rw [if_pos rfl] at H; exact H
      clear H
      have H := H1
      clear H1
      by_cases c14 : a0_6.size + 0 ≤ 9223372036854775807
      · rw [if_pos c14] at H
        have c14b0 := eq_true c14
        have c14b1 : decide (a0_6.size + 0 ≤ 9223372036854775807) = true := decide_eq_true c14
        try have c14b2 : (9223372036854775807 < a0_6.size + 0) = False := eq_false (Nat.not_lt.2 c14)
        by_cases c15 : (a0_6 ++ (⟨#[]⟩ : ByteArray)).size + a1.size ≤ 9223372036854775807
        · rw [if_pos c15] at H
          have c15b0 := eq_true c15
          have c15b1 : decide ((a0_6 ++ (⟨#[]⟩ : ByteArray)).size + a1.size ≤ 9223372036854775807) = true := decide_eq_true c15
          try have c15b2 : (9223372036854775807 < (a0_6 ++ (⟨#[]⟩ : ByteArray)).size + a1.size) = False := eq_false (Nat.not_lt.2 c15)
          obtain rfl := Option.some.inj H
          go_enter Tryd.func20, Tryd.ntmps20
          go_wp2_with (first | ((with_reducible refine gate_dst (N := 2) rfl ?_); refine box_event ?hg (N := 2) ?hd (cs := #[.string a0_0, .string a0_1, .string a0_2, .string a0_3, .string a0_4, .string a0_5, .string a0_6, .bool true, .bool false, .int .i64 a0_9]) (t := 27) ?hr ?_; (case hd => rfl); (case hg => rfl); (case hr => first | (go_simp; done) | (go_simp; rfl)); intro gb147 hg w16 hbox hb; have n0_ := Aside0.mk (below_step (by repeat (first | (with_reducible first | exact HB.out | apply below_alloc | apply pw_below_drewN | apply below_drew1) | exact HB.out)) hb); have n1_ := Aside0.mk (hbox); have n2_ := Aside0.mk ((by rw [hg]; exact (below_size (by repeat (first | (with_reducible first | exact HB.out | apply below_alloc | apply pw_below_drewN | apply below_drew1) | exact HB.out))) : w.heap.size ≤ gb147)); have n3_ := Aside0.mk ((by rw [hg]; exact (below_size (by repeat (first | (with_reducible first | exact HB.out | apply below_alloc | apply pw_below_drewN | apply below_drew1) | exact HB.out))) : w.heap.size ≤ gb147)); clear HB; have HB := n0_; have BK147 := n1_; have GW147 := n2_; have GE147 := n3_; clear n0_ n1_ n2_ n3_; clear hb hbox hg; have hcz17_0 : w16.cell? ⟨gb147, 0, none⟩ = some (.string a0_0) := (blk_cell BK147.out 0).trans rfl; have hcz17_1 : w16.cell? ⟨gb147, 1, none⟩ = some (.string a0_1) := (blk_cell BK147.out 1).trans rfl; have hcz17_2 : w16.cell? ⟨gb147, 2, none⟩ = some (.string a0_2) := (blk_cell BK147.out 2).trans rfl; have hcz17_3 : w16.cell? ⟨gb147, 3, none⟩ = some (.string a0_3) := (blk_cell BK147.out 3).trans rfl; have hcz17_4 : w16.cell? ⟨gb147, 4, none⟩ = some (.string a0_4) := (blk_cell BK147.out 4).trans rfl; have hcz17_5 : w16.cell? ⟨gb147, 5, none⟩ = some (.string a0_5) := (blk_cell BK147.out 5).trans rfl; have hcz17_6 : w16.cell? ⟨gb147, 6, none⟩ = some (.string a0_6) := (blk_cell BK147.out 6).trans rfl; have hcz17_7 : w16.cell? ⟨gb147, 7, none⟩ = some (.bool true) := (blk_cell BK147.out 7).trans rfl; have hcz17_8 : w16.cell? ⟨gb147, 8, none⟩ = some (.bool false) := (blk_cell BK147.out 8).trans rfl; have hcz17_9 : w16.cell? ⟨gb147, 9, none⟩ = some (.int .i64 a0_9) := (blk_cell BK147.out 9).trans rfl; have hfz17_0 := blk_frozen BK147.out 0; have hfz17_1 := blk_frozen BK147.out 1; have hfz17_2 := blk_frozen BK147.out 2; have hfz17_3 := blk_frozen BK147.out 3; have hfz17_4 := blk_frozen BK147.out 4; have hfz17_5 := blk_frozen BK147.out 5; have hfz17_6 := blk_frozen BK147.out 6; have hfz17_7 := blk_frozen BK147.out 7; have hfz17_8 := blk_frozen BK147.out 8; have hfz17_9 := blk_frozen BK147.out 9))
          go_ret
          exact ⟨by first | rfl | (simp [errW_none, errW_some] <;> rfl) | (simp [*, errW_none, errW_some] <;> rfl), by repeat (first | (with_reducible first | exact HB.out | apply below_alloc | apply pw_below_drewN | apply below_drew1 | refine below_set ?_ GE147.out) | exact HB.out)⟩
        · rw [if_neg c15] at H
          exact absurd H (by simp)
      · rw [if_neg c14] at H
        exact absurd H (by simp)
    · replace c13 := Bool.eq_false_iff.mpr c13
      subst c13
      have H1 : (if a1.size + 0 ≤ 9223372036854775807 then (if (a1 ++ (⟨#[]⟩ : ByteArray)).size + a0_6.size ≤ 9223372036854775807 then (some ((a1 ++ (⟨#[]⟩ : ByteArray)) ++ a0_6)) else (none)) else (none)) = some r := by rw [if_neg (show ¬ (false = true) by decide)] at H; exact H
      clear H
      have H := H1
      clear H1
      by_cases c18 : a1.size + 0 ≤ 9223372036854775807
      · rw [if_pos c18] at H
        have c18b0 := eq_true c18
        have c18b1 : decide (a1.size + 0 ≤ 9223372036854775807) = true := decide_eq_true c18
        try have c18b2 : (9223372036854775807 < a1.size + 0) = False := eq_false (Nat.not_lt.2 c18)
        by_cases c19 : (a1 ++ (⟨#[]⟩ : ByteArray)).size + a0_6.size ≤ 9223372036854775807
        · rw [if_pos c19] at H
          have c19b0 := eq_true c19
          have c19b1 : decide ((a1 ++ (⟨#[]⟩ : ByteArray)).size + a0_6.size ≤ 9223372036854775807) = true := decide_eq_true c19
          try have c19b2 : (9223372036854775807 < (a1 ++ (⟨#[]⟩ : ByteArray)).size + a0_6.size) = False := eq_false (Nat.not_lt.2 c19)
          obtain rfl := Option.some.inj H
          go_enter Tryd.func20, Tryd.ntmps20
          go_wp2_with (first | ((with_reducible refine gate_dst (N := 2) rfl ?_); refine box_event ?hg (N := 2) ?hd (cs := #[.string a0_0, .string a0_1, .string a0_2, .string a0_3, .string a0_4, .string a0_5, .string a0_6, .bool false, .bool false, .int .i64 a0_9]) (t := 27) ?hr ?_; (case hd => rfl); (case hg => rfl); (case hr => first | (go_simp; done) | (go_simp; rfl)); intro gb147 hg w20 hbox hb; have n0_ := Aside0.mk (below_step (by repeat (first | (with_reducible first | exact HB.out | apply below_alloc | apply pw_below_drewN | apply below_drew1) | exact HB.out)) hb); have n1_ := Aside0.mk (hbox); have n2_ := Aside0.mk ((by rw [hg]; exact (below_size (by repeat (first | (with_reducible first | exact HB.out | apply below_alloc | apply pw_below_drewN | apply below_drew1) | exact HB.out))) : w.heap.size ≤ gb147)); have n3_ := Aside0.mk ((by rw [hg]; exact (below_size (by repeat (first | (with_reducible first | exact HB.out | apply below_alloc | apply pw_below_drewN | apply below_drew1) | exact HB.out))) : w.heap.size ≤ gb147)); clear HB; have HB := n0_; have BK147 := n1_; have GW147 := n2_; have GE147 := n3_; clear n0_ n1_ n2_ n3_; clear hb hbox hg; have hcz21_0 : w20.cell? ⟨gb147, 0, none⟩ = some (.string a0_0) := (blk_cell BK147.out 0).trans rfl; have hcz21_1 : w20.cell? ⟨gb147, 1, none⟩ = some (.string a0_1) := (blk_cell BK147.out 1).trans rfl; have hcz21_2 : w20.cell? ⟨gb147, 2, none⟩ = some (.string a0_2) := (blk_cell BK147.out 2).trans rfl; have hcz21_3 : w20.cell? ⟨gb147, 3, none⟩ = some (.string a0_3) := (blk_cell BK147.out 3).trans rfl; have hcz21_4 : w20.cell? ⟨gb147, 4, none⟩ = some (.string a0_4) := (blk_cell BK147.out 4).trans rfl; have hcz21_5 : w20.cell? ⟨gb147, 5, none⟩ = some (.string a0_5) := (blk_cell BK147.out 5).trans rfl; have hcz21_6 : w20.cell? ⟨gb147, 6, none⟩ = some (.string a0_6) := (blk_cell BK147.out 6).trans rfl; have hcz21_7 : w20.cell? ⟨gb147, 7, none⟩ = some (.bool false) := (blk_cell BK147.out 7).trans rfl; have hcz21_8 : w20.cell? ⟨gb147, 8, none⟩ = some (.bool false) := (blk_cell BK147.out 8).trans rfl; have hcz21_9 : w20.cell? ⟨gb147, 9, none⟩ = some (.int .i64 a0_9) := (blk_cell BK147.out 9).trans rfl; have hfz21_0 := blk_frozen BK147.out 0; have hfz21_1 := blk_frozen BK147.out 1; have hfz21_2 := blk_frozen BK147.out 2; have hfz21_3 := blk_frozen BK147.out 3; have hfz21_4 := blk_frozen BK147.out 4; have hfz21_5 := blk_frozen BK147.out 5; have hfz21_6 := blk_frozen BK147.out 6; have hfz21_7 := blk_frozen BK147.out 7; have hfz21_8 := blk_frozen BK147.out 8; have hfz21_9 := blk_frozen BK147.out 9))
          go_ret
          exact ⟨by first | rfl | (simp [errW_none, errW_some] <;> rfl) | (simp [*, errW_none, errW_some] <;> rfl), by repeat (first | (with_reducible first | exact HB.out | apply below_alloc | apply pw_below_drewN | apply below_drew1 | refine below_set ?_ GE147.out) | exact HB.out)⟩
        · rw [if_neg c19] at H
          exact absurd H (by simp)
      · rw [if_neg c18] at H
        exact absurd H (by simp)

end Go.Proofs.YtmbhjogohfcjgaaDoor.L
