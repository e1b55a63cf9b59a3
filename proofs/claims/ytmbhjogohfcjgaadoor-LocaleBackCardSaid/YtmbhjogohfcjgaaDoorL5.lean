-- Laid by wip/tools/xprint.py, a program of this session's, over the kit's print. Lean checks it.
import Derived.Test.YtmbhjogohfcjgaaDoorL0
import Derived.Test.YtmbhjogohfcjgaaDoorL2
import Derived.Test.YtmbhjogohfcjgaaDoorL3
import Derived.Test.YtmbhjogohfcjgaaDoorL4
namespace Go.Proofs.YtmbhjogohfcjgaaDoor.L
open Go.RowKit Go.Proofs.YtmbhjogohfcjgaaDoorW.PrintWords Go.Proofs.YtmbhjogohfcjgaaDoorW.PrintLast Go.Proofs.YtmbhjogohfcjgaaDoorW.PrintMore
attribute [local go_sem] max2_int min2_int max_two min_two max_three min_three max_four min_four   -- for this text's walks alone
set_option linter.unusedVariables false
set_option linter.unusedSimpArgs false

/-! ### locale_Locale_Write: function 17 -/
mutual
def locale_Locale_Write.j0 : Nat → Bool → ByteArray → ByteArray → Bool → ByteArray → ByteArray → ByteArray → ByteArray → ByteArray → ByteArray → ByteArray → Bool → Bool → List Int → Bool → ByteArray → Int → Option (ByteArray)
  | 0, _, _, _, _, _, _, _, _, _, _, _, _, _, _, _, _, _ => none
  | k + 1, x2, x7, x8, x22, x127000, x127001, x127002, x127003, x127004, x127005, x127006, x127007, x127008, x127009, x128000, x128001, x128002 => if x22 = true then (some (⟨#[]⟩ : ByteArray)) else (if x2 = true then ((locale_Locale_Grouped.f k x127000 x127001 x127002 x127003 x127004 x127005 x127006 x127007 x127008 x127009 x7).bind fun t132 => (locale_Locale_Write.j1 k t132 x8 x127000 x127001 x127002 x127003 x127004 x127005 x127006 x127007 x127008 x127009 x128000 x128001 x128002)) else (locale_Locale_Write.j1 k x7 x8 x127000 x127001 x127002 x127003 x127004 x127005 x127006 x127007 x127008 x127009 x128000 x128001 x128002))
def locale_Locale_Write.j1 : Nat → ByteArray → ByteArray → ByteArray → ByteArray → ByteArray → ByteArray → ByteArray → ByteArray → ByteArray → Bool → Bool → List Int → Bool → ByteArray → Int → Option (ByteArray)
  | 0, _, _, _, _, _, _, _, _, _, _, _, _, _, _, _ => none
  | k + 1, x7, x8, x127000, x127001, x127002, x127003, x127004, x127005, x127006, x127007, x127008, x127009, x128000, x128001, x128002 => if x128000 = true then (if x127004.size + x7.size ≤ 9223372036854775807 then (if x8.toList = ([] : List UInt8) then (some (x127004 ++ x7)) else (if x127001.size + x8.size ≤ 9223372036854775807 then (if (x127004 ++ x7).size + (x127001 ++ x8).size ≤ 9223372036854775807 then (some ((x127004 ++ x7) ++ (x127001 ++ x8))) else (none)) else (none))) else (none)) else (if x8.toList = ([] : List UInt8) then (some x7) else (if x127001.size + x8.size ≤ 9223372036854775807 then (if x7.size + (x127001 ++ x8).size ≤ 9223372036854775807 then (some (x7 ++ (x127001 ++ x8))) else (none)) else (none)))
end
def locale_Locale_Write.f (k : Nat) (a0_0 : ByteArray) (a0_1 : ByteArray) (a0_2 : ByteArray) (a0_3 : ByteArray) (a0_4 : ByteArray) (a0_5 : ByteArray) (a0_6 : ByteArray) (a0_7 : Bool) (a0_8 : Bool) (l0_9 : List Int) (a1_0 : Bool) (a1_1 : ByteArray) (a1_2 : Int) (a2 : Bool) : Option (ByteArray) := (locale_sides.f k a1_0 a1_1 a1_2).bind fun bt128 => (if bt128.2.2 = true then ((decimal_Right.f a1_0 a1_1 a1_2).bind fun t131 => (locale_Locale_Write.j0 k a2 bt128.1 bt128.2.1 (!t131) a0_0 a0_1 a0_2 a0_3 a0_4 a0_5 a0_6 a0_7 a0_8 l0_9 a1_0 a1_1 a1_2)) else (locale_Locale_Write.j0 k a2 bt128.1 bt128.2.1 true a0_0 a0_1 a0_2 a0_3 a0_4 a0_5 a0_6 a0_7 a0_8 l0_9 a1_0 a1_1 a1_2))
theorem locale_Locale_Write.mono_l : ∀ k, (∀ y0 y1 y2 y3 y4 y5 y6 y7 y8 y9 y10 y11 y12 y13 y14 y15 y16, LeO (locale_Locale_Write.j0 k y0 y1 y2 y3 y4 y5 y6 y7 y8 y9 y10 y11 y12 y13 y14 y15 y16) (locale_Locale_Write.j0 (k + 1) y0 y1 y2 y3 y4 y5 y6 y7 y8 y9 y10 y11 y12 y13 y14 y15 y16)) ∧ (∀ y0 y1 y2 y3 y4 y5 y6 y7 y8 y9 y10 y11 y12 y13 y14, LeO (locale_Locale_Write.j1 k y0 y1 y2 y3 y4 y5 y6 y7 y8 y9 y10 y11 y12 y13 y14) (locale_Locale_Write.j1 (k + 1) y0 y1 y2 y3 y4 y5 y6 y7 y8 y9 y10 y11 y12 y13 y14))
  | 0 => ⟨fun _ _ _ _ _ _ _ _ _ _ _ _ _ _ _ _ _ r h => by simp [locale_Locale_Write.j0] at h, fun _ _ _ _ _ _ _ _ _ _ _ _ _ _ _ r h => by simp [locale_Locale_Write.j1] at h⟩
  | k + 1 => by
    obtain ⟨ih0, ih1⟩ := locale_Locale_Write.mono_l k
    refine ⟨?_, ?_⟩
    · intro y0 y1 y2 y3 y4 y5 y6 y7 y8 y9 y10 y11 y12 y13 y14 y15 y16
      unfold locale_Locale_Write.j0
      repeat' first
      | (with_reducible exact ih0 _ _ _ _ _ _ _ _ _ _ _ _ _ _ _ _ _)
      | (with_reducible exact ih1 _ _ _ _ _ _ _ _ _ _ _ _ _ _ _)
      | (with_reducible exact locale_Locale_Grouped.mono _ _ _ _ _ _ _ _ _ _ _ _)
      | (with_reducible exact locale_sides.mono _ _ _ _)
      | (with_reducible exact LeO.refl _)
      | (with_reducible exact LeO.none _)
      | (with_reducible refine LeO.ite ?_ ?_)
      | (with_reducible refine LeO.bind ?_ (fun _ => ?_))
      | exact ih0 _ _ _ _ _ _ _ _ _ _ _ _ _ _ _ _ _
      | exact ih1 _ _ _ _ _ _ _ _ _ _ _ _ _ _ _
      | exact locale_Locale_Grouped.mono _ _ _ _ _ _ _ _ _ _ _ _
      | exact locale_sides.mono _ _ _ _
      | exact LeO.none _
      | refine LeO.ite ?_ ?_
      | refine LeO.bind ?_ (fun _ => ?_)
    · intro y0 y1 y2 y3 y4 y5 y6 y7 y8 y9 y10 y11 y12 y13 y14
      unfold locale_Locale_Write.j1
      repeat' first
      | (with_reducible exact ih0 _ _ _ _ _ _ _ _ _ _ _ _ _ _ _ _ _)
      | (with_reducible exact ih1 _ _ _ _ _ _ _ _ _ _ _ _ _ _ _)
      | (with_reducible exact locale_Locale_Grouped.mono _ _ _ _ _ _ _ _ _ _ _ _)
      | (with_reducible exact locale_sides.mono _ _ _ _)
      | (with_reducible exact LeO.refl _)
      | (with_reducible exact LeO.none _)
      | (with_reducible refine LeO.ite ?_ ?_)
      | (with_reducible refine LeO.bind ?_ (fun _ => ?_))
      | exact ih0 _ _ _ _ _ _ _ _ _ _ _ _ _ _ _ _ _
      | exact ih1 _ _ _ _ _ _ _ _ _ _ _ _ _ _ _
      | exact locale_Locale_Grouped.mono _ _ _ _ _ _ _ _ _ _ _ _
      | exact locale_sides.mono _ _ _ _
      | exact LeO.none _
      | refine LeO.ite ?_ ?_
      | refine LeO.bind ?_ (fun _ => ?_)
theorem locale_Locale_Write.mono : ∀ a0 a1 a2 a3 a4 a5 a6 a7 a8 a9 a10 a11 a12 a13 k, LeO (locale_Locale_Write.f k a0 a1 a2 a3 a4 a5 a6 a7 a8 a9 a10 a11 a12 a13) (locale_Locale_Write.f (k + 1) a0 a1 a2 a3 a4 a5 a6 a7 a8 a9 a10 a11 a12 a13) := by
  intro a0 a1 a2 a3 a4 a5 a6 a7 a8 a9 a10 a11 a12 a13 k
  obtain ⟨ih0, ih1⟩ := locale_Locale_Write.mono_l k
  unfold locale_Locale_Write.f
  repeat' first
      | (with_reducible exact ih0 _ _ _ _ _ _ _ _ _ _ _ _ _ _ _ _ _)
      | (with_reducible exact ih1 _ _ _ _ _ _ _ _ _ _ _ _ _ _ _)
      | (with_reducible exact locale_Locale_Grouped.mono _ _ _ _ _ _ _ _ _ _ _ _)
      | (with_reducible exact locale_sides.mono _ _ _ _)
      | (with_reducible exact LeO.refl _)
      | (with_reducible exact LeO.none _)
      | (with_reducible refine LeO.ite ?_ ?_)
      | (with_reducible refine LeO.bind ?_ (fun _ => ?_))
      | exact ih0 _ _ _ _ _ _ _ _ _ _ _ _ _ _ _ _ _
      | exact ih1 _ _ _ _ _ _ _ _ _ _ _ _ _ _ _
      | exact locale_Locale_Grouped.mono _ _ _ _ _ _ _ _ _ _ _ _
      | exact locale_sides.mono _ _ _ _
      | exact LeO.none _
      | refine LeO.ite ?_ ?_
      | refine LeO.bind ?_ (fun _ => ?_)
set_option maxHeartbeats 8000000 in
set_option maxRecDepth 100000 in
theorem locale_Locale_Write.calls (k : Nat) (a0_0 : ByteArray) (a0_1 : ByteArray) (a0_2 : ByteArray) (a0_3 : ByteArray) (a0_4 : ByteArray) (a0_5 : ByteArray) (a0_6 : ByteArray) (a0_7 : Bool) (a0_8 : Bool) (A0_9 : Option Addr) (c0_9 : Nat) (l0_9 : List Int) (a1_0 : Bool) (a1_1 : ByteArray) (a1_2 : Int) (a2 : Bool) (r : ByteArray) (w : World) (hr0_9 : Kd.C (Kd.int .i64) w A0_9 l0_9.length l0_9) (hc0_9 : l0_9.length ≤ c0_9) (h : locale_Locale_Write.f k a0_0 a0_1 a0_2 a0_3 a0_4 a0_5 a0_6 a0_7 a0_8 l0_9 a1_0 a1_1 a1_2 a2 = some r) :
    Calls Tryd.prog 17 #[.agg #[.string a0_0, .string a0_1, .string a0_2, .string a0_3, .string a0_4, .string a0_5, .string a0_6, .bool a0_7, .bool a0_8, .slice A0_9 l0_9.length c0_9], .agg #[.bool a1_0, .string a1_1, .int .i64 a1_2], .bool a2] w fun e w' => e = .returned (.string r) ∧ Below w.heap.size w w' := by
  have hu25 := Tryd.underlying25
  have hu36 := Tryd.underlying36
  have HR0_9 := Aside0.mk hr0_9
  have HC0_9 := Aside0.mk hc0_9
  clear hr0_9 hc0_9
  have HB := Aside0.mk (Below.refl w.heap.size w)
  have H : ((locale_sides.f k a1_0 a1_1 a1_2).bind fun bt128 => (if bt128.2.2 = true then ((decimal_Right.f a1_0 a1_1 a1_2).bind fun t131 => (locale_Locale_Write.j0 k a2 bt128.1 bt128.2.1 (!t131) a0_0 a0_1 a0_2 a0_3 a0_4 a0_5 a0_6 a0_7 a0_8 l0_9 a1_0 a1_1 a1_2)) else (locale_Locale_Write.j0 k a2 bt128.1 bt128.2.1 true a0_0 a0_1 a0_2 a0_3 a0_4 a0_5 a0_6 a0_7 a0_8 l0_9 a1_0 a1_1 a1_2))) = some r := h
  clear h
  replace H := Option.bind_eq_some_iff.mp H
  obtain ⟨⟨t128, t129, t130⟩, A40, H⟩ := H
  replace H : (if t130 = true then ((decimal_Right.f a1_0 a1_1 a1_2).bind fun t131 => (locale_Locale_Write.j0 k a2 t128 t129 (!t131) a0_0 a0_1 a0_2 a0_3 a0_4 a0_5 a0_6 a0_7 a0_8 l0_9 a1_0 a1_1 a1_2)) else (locale_Locale_Write.j0 k a2 t128 t129 true a0_0 a0_1 a0_2 a0_3 a0_4 a0_5 a0_6 a0_7 a0_8 l0_9 a1_0 a1_1 a1_2)) = some r := H
  have A4 := Aside0.mk A40
  clear A40
  have HC5 := Aside0.mk H
  clear H
  go_enter Tryd.func17, Tryd.ntmps17
  go_upto_region 2 with (first | ((with_reducible refine gate_dst (N := 3) rfl ?_); refine box_event ?hg (N := 3) ?hd (cs := #[.string a0_0, .string a0_1, .string a0_2, .string a0_3, .string a0_4, .string a0_5, .string a0_6, .bool a0_7, .bool a0_8, .slice A0_9 l0_9.length c0_9]) (t := 25) ?hr ?_; (case hd => rfl); (case hg => rfl); (case hr => first | (go_simp; done) | (go_simp; rfl)); intro gb126 hg w6 hbox hb; have n0_ := Aside0.mk (below_step (by repeat (first | (with_reducible first | exact HB.out | apply below_alloc | apply pw_below_drewN | apply below_drew1) | exact HB.out)) hb); have n1_ := Aside0.mk (hbox); have n2_ := Aside0.mk ((by rw [hg]; exact (below_size (by repeat (first | (with_reducible first | exact HB.out | apply below_alloc | apply pw_below_drewN | apply below_drew1) | exact HB.out))) : w.heap.size ≤ gb126)); have n3_ := Aside0.mk ((by rw [hg]; exact (below_size (by repeat (first | (with_reducible first | exact HB.out | apply below_alloc | apply pw_below_drewN | apply below_drew1) | exact HB.out))) : w.heap.size ≤ gb126)); clear HB; have HB := n0_; have BK126 := n1_; have GW126 := n2_; have GE126 := n3_; clear n0_ n1_ n2_ n3_; clear hb hbox hg) | ((with_reducible refine gate_dst (N := 4) rfl ?_); refine box_event ?hg (N := 4) ?hd (cs := #[.bool a1_0, .string a1_1, .int .i64 a1_2]) (t := 36) ?hr ?_; (case hd => rfl); (case hg => rfl); (case hr => first | (go_simp; done) | (go_simp; rfl)); intro gb127 hg w7 hbox hb; have n0_ := Aside0.mk (blk_below (g := gb126) (o := .cells #[.string a0_0, .string a0_1, .string a0_2, .string a0_3, .string a0_4, .string a0_5, .string a0_6, .bool a0_7, .bool a0_8, .slice A0_9 l0_9.length c0_9] 25 (0, 0)) (by (with_reducible repeat (first | refine blk_drewN ?_ _ | refine blk_drew ?_ | refine blk_alloc ?_ _)); exact BK126.out) hb); have n1_ := Aside0.mk (below_step (by repeat (first | (with_reducible first | exact HB.out | apply below_alloc | apply pw_below_drewN | apply below_drew1 | refine below_set ?_ GE126.out) | exact HB.out)) hb); have n2_ := Aside0.mk (hbox); have n3_ := Aside0.mk ((by rw [hg]; exact (below_size (by repeat (first | (with_reducible first | exact HB.out | apply below_alloc | apply pw_below_drewN | apply below_drew1 | refine below_set ?_ GE126.out) | exact HB.out))) : w.heap.size ≤ gb127)); have n4_ := Aside0.mk ((by rw [hg]; exact (below_size (by repeat (first | (with_reducible first | exact HB.out | apply below_alloc | apply pw_below_drewN | apply below_drew1 | refine below_set ?_ GE126.out) | exact HB.out))) : w.heap.size ≤ gb127)); have n5_ := Aside0.mk ((by rw [hg]; exact Nat.ne_of_lt (blk_lt (g := gb126) (o := .cells #[.string a0_0, .string a0_1, .string a0_2, .string a0_3, .string a0_4, .string a0_5, .string a0_6, .bool a0_7, .bool a0_8, .slice A0_9 l0_9.length c0_9] 25 (0, 0)) (by (with_reducible repeat (first | refine blk_drewN ?_ _ | refine blk_drew ?_ | refine blk_alloc ?_ _)); exact BK126.out)) : gb126 ≠ gb127)); have n6_ := Aside0.mk ((by rw [hg]; exact Nat.ne_of_gt (blk_lt (g := gb126) (o := .cells #[.string a0_0, .string a0_1, .string a0_2, .string a0_3, .string a0_4, .string a0_5, .string a0_6, .bool a0_7, .bool a0_8, .slice A0_9 l0_9.length c0_9] 25 (0, 0)) (by (with_reducible repeat (first | refine blk_drewN ?_ _ | refine blk_drew ?_ | refine blk_alloc ?_ _)); exact BK126.out)) : gb127 ≠ gb126)); clear BK126; clear HB; have BK126 := n0_; have HB := n1_; have BK127 := n2_; have GW127 := n3_; have GE127 := n4_; have NB126_127 := n5_; have NB127_126 := n6_; clear n0_ n1_ n2_ n3_ n4_ n5_ n6_; clear hb hbox hg; have hnb8 := NB127_126.out; have hnc8 := NB126_127.out; have hcz9_0 : w7.cell? ⟨gb127, 0, none⟩ = some (.bool a1_0) := (blk_cell BK127.out 0).trans rfl; have hcz9_1 : w7.cell? ⟨gb127, 1, none⟩ = some (.string a1_1) := (blk_cell BK127.out 1).trans rfl; have hcz9_2 : w7.cell? ⟨gb127, 2, none⟩ = some (.int .i64 a1_2) := (blk_cell BK127.out 2).trans rfl; have hfz9_0 := blk_frozen BK127.out 0; have hfz9_1 := blk_frozen BK127.out 1; have hfz9_2 := blk_frozen BK127.out 2) | ((with_reducible refine gate_callee (f := 44) rfl ?_); refine goesL_ (some 12) rfl rfl Tryd.func44 (by kernel_rfl) rfl #[.agg #[.bool a1_0, .string a1_1, .int .i64 a1_2]] rfl (by (try simp only [List.map_toArray, List.map_cons, List.map_nil]); first | done | rfl | (simp only [List.length_drop, List.length_take]; rfl)) ?_; (with_reducible refine (locale_sides.calls k a1_0 a1_1 a1_2 t128 t129 t130 _ A4.out).mono ?_); rintro e w10 ⟨rfl, hb⟩; refine ⟨_, rfl, ?_⟩; have n0_ := Aside0.mk (blk_below (g := gb126) (o := .cells #[.string a0_0, .string a0_1, .string a0_2, .string a0_3, .string a0_4, .string a0_5, .string a0_6, .bool a0_7, .bool a0_8, .slice A0_9 l0_9.length c0_9] 25 (0, 0)) (by (with_reducible repeat (first | refine blk_drewN ?_ _ | refine blk_drew ?_ | refine blk_alloc ?_ _)); exact BK126.out) hb); have n1_ := Aside0.mk (blk_below (g := gb127) (o := .cells #[.bool a1_0, .string a1_1, .int .i64 a1_2] 36 (0, 0)) (by (with_reducible repeat (first | refine blk_drewN ?_ _ | refine blk_drew ?_ | refine blk_alloc ?_ _)); exact BK127.out) hb); have n2_ := Aside0.mk (below_step (by repeat (first | (with_reducible first | exact HB.out | apply below_alloc | apply pw_below_drewN | apply below_drew1 | refine below_set ?_ GE126.out | refine below_set ?_ GE127.out) | exact HB.out)) hb); clear BK126; clear BK127; clear HB; have BK126 := n0_; have BK127 := n1_; have HB := n2_; clear n0_ n1_ n2_; (try clear hb); (try clear hb2); (try clear hk); (try clear hi)))
  (try simp only [Act.put, List.setIfInBounds_toArray, List.set_cons_zero, List.set_cons_succ])
  go_cut [22] (fun v22 wc => ∃ (kq : Nat) (x22_4 : Bool), v22 = .bool x22_4 ∧ Aside0 (locale_Locale_Write.j0 kq a2 t128 t129 x22_4 a0_0 a0_1 a0_2 a0_3 a0_4 a0_5 a0_6 a0_7 a0_8 l0_9 a1_0 a1_1 a1_2 = some r) ∧ Aside0 (kq ≤ k) ∧ Aside0 (wc.heap[gb126]? = some (.cells #[.string a0_0, .string a0_1, .string a0_2, .string a0_3, .string a0_4, .string a0_5, .string a0_6, .bool a0_7, .bool a0_8, (.slice A0_9 l0_9.length c0_9)] 25 (0, 0))) ∧ Aside0 (wc.heap[gb127]? = some (.cells #[.bool a1_0, .string a1_1, .int .i64 a1_2] 36 (0, 0))) ∧ Aside0 (Below w.heap.size w wc))
  case first =>
    have H := HC5.out
    clear HC5
    by_cases c11 : t130 = true
    · subst c11
      have H1 : ((decimal_Right.f a1_0 a1_1 a1_2).bind fun t131 => (locale_Locale_Write.j0 k a2 t128 t129 (!t131) a0_0 a0_1 a0_2 a0_3 a0_4 a0_5 a0_6 a0_7 a0_8 l0_9 a1_0 a1_1 a1_2)) = some r := by rw [if_pos rfl] at H; exact H
      clear H
      have H := H1
      clear H1
      replace H := Option.bind_eq_some_iff.mp H
      obtain ⟨t131, A120, H⟩ := H
      replace H : (locale_Locale_Write.j0 k a2 t128 t129 (!t131) a0_0 a0_1 a0_2 a0_3 a0_4 a0_5 a0_6 a0_7 a0_8 l0_9 a1_0 a1_1 a1_2) = some r := H
      have A12 := Aside0.mk A120
      clear A120
      have H' := Aside0.mk H
      clear H
      have hnb13 := NB127_126.out
      have hnc13 := NB126_127.out
      have hcz14_0 : w10.cell? ⟨gb127, 0, none⟩ = some (.bool a1_0) := (blk_cell BK127.out 0).trans rfl
      have hcz14_1 : w10.cell? ⟨gb127, 1, none⟩ = some (.string a1_1) := (blk_cell BK127.out 1).trans rfl
      have hcz14_2 : w10.cell? ⟨gb127, 2, none⟩ = some (.int .i64 a1_2) := (blk_cell BK127.out 2).trans rfl
      have hfz14_0 := blk_frozen BK127.out 0
      have hfz14_1 := blk_frozen BK127.out 1
      have hfz14_2 := blk_frozen BK127.out 2
      go_wp2_with (first | (go_at_call 45; (with_reducible refine (decimal_Right.calls a1_0 a1_1 a1_2 t131 _ A12.out).mono ?_); rintro e w15 ⟨rfl, hb⟩; have n0_ := Aside0.mk (blk_below (g := gb126) (o := .cells #[.string a0_0, .string a0_1, .string a0_2, .string a0_3, .string a0_4, .string a0_5, .string a0_6, .bool a0_7, .bool a0_8, .slice A0_9 l0_9.length c0_9] 25 (0, 0)) (by (with_reducible repeat (first | refine blk_drewN ?_ _ | refine blk_drew ?_ | refine blk_alloc ?_ _)); exact BK126.out) hb); have n1_ := Aside0.mk (blk_below (g := gb127) (o := .cells #[.bool a1_0, .string a1_1, .int .i64 a1_2] 36 (0, 0)) (by (with_reducible repeat (first | refine blk_drewN ?_ _ | refine blk_drew ?_ | refine blk_alloc ?_ _)); exact BK127.out) hb); have n2_ := Aside0.mk (below_step (by repeat (first | (with_reducible first | exact HB.out | apply below_alloc | apply pw_below_drewN | apply below_drew1 | refine below_set ?_ GE126.out | refine below_set ?_ GE127.out) | exact HB.out)) hb); clear BK126; clear BK127; clear HB; have BK126 := n0_; have BK127 := n1_; have HB := n2_; clear n0_ n1_ n2_; (try clear hb); (try clear hb2); (try clear hk); (try clear hi)))
      go_meet
      case rel => exact ⟨_, (!t131), (by first | rfl | (simp; done) | (simp [*]; done) | (simp [bne]; done)), H', ⟨by first | omega | exact Nat.le_refl _⟩, ⟨by (with_reducible repeat (first | refine blk_drewN ?_ _ | refine blk_drew ?_ | refine blk_alloc ?_ _)); exact BK126.out⟩, ⟨by (with_reducible repeat (first | refine blk_drewN ?_ _ | refine blk_drew ?_ | refine blk_alloc ?_ _)); exact BK127.out⟩, ⟨by repeat (first | (with_reducible first | exact HB.out | apply below_alloc | apply pw_below_drewN | apply below_drew1 | refine below_set ?_ GE126.out | refine below_set ?_ GE127.out) | exact HB.out)⟩⟩
    · replace c11 := Bool.eq_false_iff.mpr c11
      subst c11
      have H1 : (locale_Locale_Write.j0 k a2 t128 t129 true a0_0 a0_1 a0_2 a0_3 a0_4 a0_5 a0_6 a0_7 a0_8 l0_9 a1_0 a1_1 a1_2) = some r := by rw [if_neg (show ¬ (false = true) by decide)] at H; exact H
      clear H
      have H := H1
      clear H1
      have H' := Aside0.mk H
      clear H
      go_wp2
      go_meet
      case rel => exact ⟨_, (true), (by first | rfl | (simp; done) | (simp [*]; done) | (simp [bne]; done)), H', ⟨by first | omega | exact Nat.le_refl _⟩, ⟨by (with_reducible repeat (first | refine blk_drewN ?_ _ | refine blk_drew ?_ | refine blk_alloc ?_ _)); exact BK126.out⟩, ⟨by (with_reducible repeat (first | refine blk_drewN ?_ _ | refine blk_drew ?_ | refine blk_alloc ?_ _)); exact BK127.out⟩, ⟨by repeat (first | (with_reducible first | exact HB.out | apply below_alloc | apply pw_below_drewN | apply below_drew1 | refine below_set ?_ GE126.out | refine below_set ?_ GE127.out) | exact HB.out)⟩⟩
  case rest =>
    clear HC5
    try clear c1
    try clear p2
    try clear c4
    try clear c8
    try clear c11
    try clear c13
    try clear hcz14_0
    try clear hcz14_1
    try clear hcz14_2
    try clear hcz9_0
    try clear hcz9_1
    try clear hcz9_2
    try clear hfz14_0
    try clear hfz14_1
    try clear hfz14_2
    try clear hfz9_0
    try clear hfz9_1
    try clear hfz9_2
    obtain ⟨kq, x22_4, rfl, HA, HJ4, BK126, BK127, HB⟩ := hcut
    cases kq with
    | zero => exact absurd HA.out (by simp [locale_Locale_Write.j0])
    | succ kj4 =>
      have H := HA.out
      clear HA
      simp only [locale_Locale_Write.j0] at H
      by_cases c16 : x22_4 = true
      · subst c16
        have H1 : (some (⟨#[]⟩ : ByteArray)) = some r := by rw [if_pos rfl] at H; exact H
        clear H
        have H := H1
        clear H1
        obtain rfl := Option.some.inj H
        go_wp2
        go_ret
        exact ⟨by first | rfl | (simp [errW_none, errW_some] <;> rfl) | (simp [*, errW_none, errW_some] <;> rfl), by repeat (first | (with_reducible first | exact HB.out | apply below_alloc | apply pw_below_drewN | apply below_drew1 | refine below_set ?_ GE126.out | refine below_set ?_ GE127.out) | exact HB.out)⟩
      · replace c16 := Bool.eq_false_iff.mpr c16
        subst c16
        have H1 : (if a2 = true then ((locale_Locale_Grouped.f kj4 a0_0 a0_1 a0_2 a0_3 a0_4 a0_5 a0_6 a0_7 a0_8 l0_9 t128).bind fun t132 => (locale_Locale_Write.j1 kj4 t132 t129 a0_0 a0_1 a0_2 a0_3 a0_4 a0_5 a0_6 a0_7 a0_8 l0_9 a1_0 a1_1 a1_2)) else (locale_Locale_Write.j1 kj4 t128 t129 a0_0 a0_1 a0_2 a0_3 a0_4 a0_5 a0_6 a0_7 a0_8 l0_9 a1_0 a1_1 a1_2)) = some r := by rw [if_neg (show ¬ (false = true) by decide)] at H; exact H
        clear H
        have H := H1
        clear H1
        have HC17 := Aside0.mk H
        clear H
        go_upto_if 23 with (fail)
        go_cut [7] (fun v7 wc => ∃ (kq : Nat) (x7_16 : ByteArray), v7 = .string x7_16 ∧ Aside0 (locale_Locale_Write.j1 kq x7_16 t129 a0_0 a0_1 a0_2 a0_3 a0_4 a0_5 a0_6 a0_7 a0_8 l0_9 a1_0 a1_1 a1_2 = some r) ∧ Aside0 (kq ≤ kj4) ∧ Aside0 (wc.heap[gb126]? = some (.cells #[.string a0_0, .string a0_1, .string a0_2, .string a0_3, .string a0_4, .string a0_5, .string a0_6, .bool a0_7, .bool a0_8, (.slice A0_9 l0_9.length c0_9)] 25 (0, 0))) ∧ Aside0 (wc.heap[gb127]? = some (.cells #[.bool a1_0, .string a1_1, .int .i64 a1_2] 36 (0, 0))) ∧ Aside0 (Below w.heap.size w wc))
        case first =>
          have H := HC17.out
          clear HC17
          by_cases c18 : a2 = true
          · subst c18
            have H1 : ((locale_Locale_Grouped.f kj4 a0_0 a0_1 a0_2 a0_3 a0_4 a0_5 a0_6 a0_7 a0_8 l0_9 t128).bind fun t132 => (locale_Locale_Write.j1 kj4 t132 t129 a0_0 a0_1 a0_2 a0_3 a0_4 a0_5 a0_6 a0_7 a0_8 l0_9 a1_0 a1_1 a1_2)) = some r := by rw [if_pos rfl] at H; exact H
            clear H
            have H := H1
            clear H1
            replace H := Option.bind_eq_some_iff.mp H
            obtain ⟨t132, A190, H⟩ := H
            replace H : (locale_Locale_Write.j1 kj4 t132 t129 a0_0 a0_1 a0_2 a0_3 a0_4 a0_5 a0_6 a0_7 a0_8 l0_9 a1_0 a1_1 a1_2) = some r := H
            have A19 := Aside0.mk A190
            clear A190
            have H' := Aside0.mk H
            clear H
            have hnb20 := NB126_127.out
            have hnc20 := NB127_126.out
            have hcz21_0 : wc.cell? ⟨gb126, 0, none⟩ = some (.string a0_0) := (blk_cell BK126.out 0).trans rfl
            have hcz21_1 : wc.cell? ⟨gb126, 1, none⟩ = some (.string a0_1) := (blk_cell BK126.out 1).trans rfl
            have hcz21_2 : wc.cell? ⟨gb126, 2, none⟩ = some (.string a0_2) := (blk_cell BK126.out 2).trans rfl
            have hcz21_3 : wc.cell? ⟨gb126, 3, none⟩ = some (.string a0_3) := (blk_cell BK126.out 3).trans rfl
            have hcz21_4 : wc.cell? ⟨gb126, 4, none⟩ = some (.string a0_4) := (blk_cell BK126.out 4).trans rfl
            have hcz21_5 : wc.cell? ⟨gb126, 5, none⟩ = some (.string a0_5) := (blk_cell BK126.out 5).trans rfl
            have hcz21_6 : wc.cell? ⟨gb126, 6, none⟩ = some (.string a0_6) := (blk_cell BK126.out 6).trans rfl
            have hcz21_7 : wc.cell? ⟨gb126, 7, none⟩ = some (.bool a0_7) := (blk_cell BK126.out 7).trans rfl
            have hcz21_8 : wc.cell? ⟨gb126, 8, none⟩ = some (.bool a0_8) := (blk_cell BK126.out 8).trans rfl
            have hcz21_9 : wc.cell? ⟨gb126, 9, none⟩ = some (.slice A0_9 l0_9.length c0_9) := (blk_cell BK126.out 9).trans rfl
            have hfz21_0 := blk_frozen BK126.out 0
            have hfz21_1 := blk_frozen BK126.out 1
            have hfz21_2 := blk_frozen BK126.out 2
            have hfz21_3 := blk_frozen BK126.out 3
            have hfz21_4 := blk_frozen BK126.out 4
            have hfz21_5 := blk_frozen BK126.out 5
            have hfz21_6 := blk_frozen BK126.out 6
            have hfz21_7 := blk_frozen BK126.out 7
            have hfz21_8 := blk_frozen BK126.out 8
            have hfz21_9 := blk_frozen BK126.out 9
            go_wp2_with (first | ((with_reducible refine gate_callee (f := 15) rfl ?_); refine goesL_ (some 26) rfl rfl Tryd.func15 (by kernel_rfl) rfl #[.agg #[.string a0_0, .string a0_1, .string a0_2, .string a0_3, .string a0_4, .string a0_5, .string a0_6, .bool a0_7, .bool a0_8, .slice A0_9 l0_9.length c0_9], .string t128] rfl (by (try simp only [List.map_toArray, List.map_cons, List.map_nil]); first | done | rfl | (simp only [List.length_drop, List.length_take]; rfl)) ?_; (with_reducible refine (locale_Locale_Grouped.calls kj4 a0_0 a0_1 a0_2 a0_3 a0_4 a0_5 a0_6 a0_7 a0_8 _ _ l0_9 t128 t132 _ ?side1 ?side2 A19.out).mono ?_); (case side1 => repeat (first | exact (Kd.C_below HR0_9.out HB.out) | (with_reducible refine Kd.C_alloc ?_ _) | (with_reducible refine Kd.C_drewN ?_ _) | (with_reducible refine Kd.C_drew ?_))); (case side2 => exact HC0_9.out); rintro e w22 ⟨rfl, hb⟩; refine ⟨_, rfl, ?_⟩; have n0_ := Aside0.mk (blk_below (g := gb126) (o := .cells #[.string a0_0, .string a0_1, .string a0_2, .string a0_3, .string a0_4, .string a0_5, .string a0_6, .bool a0_7, .bool a0_8, .slice A0_9 l0_9.length c0_9] 25 (0, 0)) (by (with_reducible repeat (first | refine blk_drewN ?_ _ | refine blk_drew ?_ | refine blk_alloc ?_ _)); exact BK126.out) hb); have n1_ := Aside0.mk (blk_below (g := gb127) (o := .cells #[.bool a1_0, .string a1_1, .int .i64 a1_2] 36 (0, 0)) (by (with_reducible repeat (first | refine blk_drewN ?_ _ | refine blk_drew ?_ | refine blk_alloc ?_ _)); exact BK127.out) hb); have n2_ := Aside0.mk (below_step (by repeat (first | (with_reducible first | exact HB.out | apply below_alloc | apply pw_below_drewN | apply below_drew1 | refine below_set ?_ GE126.out | refine below_set ?_ GE127.out) | exact HB.out)) hb); clear BK126; clear BK127; clear HB; have BK126 := n0_; have BK127 := n1_; have HB := n2_; clear n0_ n1_ n2_; (try clear hb); (try clear hb2); (try clear hk); (try clear hi)))
            go_meet
            case rel => exact ⟨_, (t132), (by first | rfl | (simp; done) | (simp [*]; done) | (simp [bne]; done)), H', ⟨by have := HJ4.out; first | omega | exact Nat.le_refl _⟩, ⟨by (with_reducible repeat (first | refine blk_drewN ?_ _ | refine blk_drew ?_ | refine blk_alloc ?_ _)); exact BK126.out⟩, ⟨by (with_reducible repeat (first | refine blk_drewN ?_ _ | refine blk_drew ?_ | refine blk_alloc ?_ _)); exact BK127.out⟩, ⟨by repeat (first | (with_reducible first | exact HB.out | apply below_alloc | apply pw_below_drewN | apply below_drew1 | refine below_set ?_ GE126.out | refine below_set ?_ GE127.out) | exact HB.out)⟩⟩
          · replace c18 := Bool.eq_false_iff.mpr c18
            subst c18
            have H1 : (locale_Locale_Write.j1 kj4 t128 t129 a0_0 a0_1 a0_2 a0_3 a0_4 a0_5 a0_6 a0_7 a0_8 l0_9 a1_0 a1_1 a1_2) = some r := by rw [if_neg (show ¬ (false = true) by decide)] at H; exact H
            clear H
            have H := H1
            clear H1
            have H' := Aside0.mk H
            clear H
            go_wp2
            go_meet
            case rel => exact ⟨_, (t128), (by first | rfl | (simp; done) | (simp [*]; done) | (simp [bne]; done)), H', ⟨by have := HJ4.out; first | omega | exact Nat.le_refl _⟩, ⟨by (with_reducible repeat (first | refine blk_drewN ?_ _ | refine blk_drew ?_ | refine blk_alloc ?_ _)); exact BK126.out⟩, ⟨by (with_reducible repeat (first | refine blk_drewN ?_ _ | refine blk_drew ?_ | refine blk_alloc ?_ _)); exact BK127.out⟩, ⟨by repeat (first | (with_reducible first | exact HB.out | apply below_alloc | apply pw_below_drewN | apply below_drew1 | refine below_set ?_ GE126.out | refine below_set ?_ GE127.out) | exact HB.out)⟩⟩
        case rest =>
          clear HC17
          try clear c1
          try clear c2
          try clear p2
          try clear c4
          try clear c8
          try clear c11
          try clear c13
          try clear c15
          try clear c16
          try clear c17
          try clear c18
          try clear c20
          try clear hcz14_0
          try clear hcz14_1
          try clear hcz14_2
          try clear hcz21_0
          try clear hcz21_1
          try clear hcz21_2
          try clear hcz21_3
          try clear hcz21_4
          try clear hcz21_5
          try clear hcz21_6
          try clear hcz21_7
          try clear hcz21_8
          try clear hcz21_9
          try clear hcz9_0
          try clear hcz9_1
          try clear hcz9_2
          try clear hfz14_0
          try clear hfz14_1
          try clear hfz14_2
          try clear hfz21_0
          try clear hfz21_1
          try clear hfz21_2
          try clear hfz21_3
          try clear hfz21_4
          try clear hfz21_5
          try clear hfz21_6
          try clear hfz21_7
          try clear hfz21_8
          try clear hfz21_9
          try clear hfz9_0
          try clear hfz9_1
          try clear hfz9_2
          try clear p2
          obtain ⟨kq, x7_16, rfl, HA, HJ16, BK126, BK127, HB⟩ := hcut
          cases kq with
          | zero => exact absurd HA.out (by simp [locale_Locale_Write.j1])
          | succ kj16 =>
            have H := HA.out
            clear HA
            simp only [locale_Locale_Write.j1] at H
            by_cases c23 : a1_0 = true
            · subst c23
              have H1 : (if a0_4.size + x7_16.size ≤ 9223372036854775807 then (if t129.toList = ([] : List UInt8) then (some (a0_4 ++ x7_16)) else (if a0_1.size + t129.size ≤ 9223372036854775807 then (if (a0_4 ++ x7_16).size + (a0_1 ++ t129).size ≤ 9223372036854775807 then (some ((a0_4 ++ x7_16) ++ (a0_1 ++ t129))) else (none)) else (none))) else (none)) = some r := by rw [if_pos rfl] at H; exact H
              clear H
              have H := H1
              clear H1
              by_cases c24 : a0_4.size + x7_16.size ≤ 9223372036854775807
              · rw [if_pos c24] at H
                have c24b0 := eq_true c24
                have c24b1 : decide (a0_4.size + x7_16.size ≤ 9223372036854775807) = true := decide_eq_true c24
                try have c24b2 : (9223372036854775807 < a0_4.size + x7_16.size) = False := eq_false (Nat.not_lt.2 c24)
                by_cases c25 : t129.toList = ([] : List UInt8)
                · rw [if_pos c25] at H
                  have c25b0 : (t129.toList == ([] : List UInt8)) = true := beq_iff_eq.mpr c25
                  (try have c25b8 : t129.toList.isEmpty = true := by simpa using c25)
                  have c25b1 : (t129.toList != ([] : List UInt8)) = false := bne_eq_false_iff_eq.mpr c25
                  clear c25
                  obtain rfl := Option.some.inj H
                  have hnb26 := NB127_126.out
                  have hnc26 := NB126_127.out
                  have hcz27_0 : wc.cell? ⟨gb127, 0, none⟩ = some (.bool true) := (blk_cell BK127.out 0).trans rfl
                  have hcz27_1 : wc.cell? ⟨gb127, 1, none⟩ = some (.string a1_1) := (blk_cell BK127.out 1).trans rfl
                  have hcz27_2 : wc.cell? ⟨gb127, 2, none⟩ = some (.int .i64 a1_2) := (blk_cell BK127.out 2).trans rfl
                  have hfz27_0 := blk_frozen BK127.out 0
                  have hfz27_1 := blk_frozen BK127.out 1
                  have hfz27_2 := blk_frozen BK127.out 2
                  have hcz28_0 : wc.cell? ⟨gb126, 0, none⟩ = some (.string a0_0) := (blk_cell BK126.out 0).trans rfl
                  have hcz28_1 : wc.cell? ⟨gb126, 1, none⟩ = some (.string a0_1) := (blk_cell BK126.out 1).trans rfl
                  have hcz28_2 : wc.cell? ⟨gb126, 2, none⟩ = some (.string a0_2) := (blk_cell BK126.out 2).trans rfl
                  have hcz28_3 : wc.cell? ⟨gb126, 3, none⟩ = some (.string a0_3) := (blk_cell BK126.out 3).trans rfl
                  have hcz28_4 : wc.cell? ⟨gb126, 4, none⟩ = some (.string a0_4) := (blk_cell BK126.out 4).trans rfl
                  have hcz28_5 : wc.cell? ⟨gb126, 5, none⟩ = some (.string a0_5) := (blk_cell BK126.out 5).trans rfl
                  have hcz28_6 : wc.cell? ⟨gb126, 6, none⟩ = some (.string a0_6) := (blk_cell BK126.out 6).trans rfl
                  have hcz28_7 : wc.cell? ⟨gb126, 7, none⟩ = some (.bool a0_7) := (blk_cell BK126.out 7).trans rfl
                  have hcz28_8 : wc.cell? ⟨gb126, 8, none⟩ = some (.bool a0_8) := (blk_cell BK126.out 8).trans rfl
                  have hcz28_9 : wc.cell? ⟨gb126, 9, none⟩ = some (.slice A0_9 l0_9.length c0_9) := (blk_cell BK126.out 9).trans rfl
                  have hfz28_0 := blk_frozen BK126.out 0
                  have hfz28_1 := blk_frozen BK126.out 1
                  have hfz28_2 := blk_frozen BK126.out 2
                  have hfz28_3 := blk_frozen BK126.out 3
                  have hfz28_4 := blk_frozen BK126.out 4
                  have hfz28_5 := blk_frozen BK126.out 5
                  have hfz28_6 := blk_frozen BK126.out 6
                  have hfz28_7 := blk_frozen BK126.out 7
                  have hfz28_8 := blk_frozen BK126.out 8
                  have hfz28_9 := blk_frozen BK126.out 9
                  go_wp2
                  go_ret
                  exact ⟨by first | rfl | (simp [errW_none, errW_some] <;> rfl) | (simp [*, errW_none, errW_some] <;> rfl), by repeat (first | (with_reducible first | exact HB.out | apply below_alloc | apply pw_below_drewN | apply below_drew1 | refine below_set ?_ GE126.out | refine below_set ?_ GE127.out) | exact HB.out)⟩
                · rw [if_neg c25] at H
                  have c25b0 : (t129.toList == ([] : List UInt8)) = false := beq_eq_false_iff_ne.mpr c25
                  (try have c25b8 : t129.toList.isEmpty = false := by simpa using c25)
                  have c25b1 : (t129.toList != ([] : List UInt8)) = true := bne_iff_ne.mpr c25
                  by_cases c29 : a0_1.size + t129.size ≤ 9223372036854775807
                  · rw [if_pos c29] at H
                    have c29b0 := eq_true c29
                    have c29b1 : decide (a0_1.size + t129.size ≤ 9223372036854775807) = true := decide_eq_true c29
                    try have c29b2 : (9223372036854775807 < a0_1.size + t129.size) = False := eq_false (Nat.not_lt.2 c29)
                    by_cases c30 : (a0_4 ++ x7_16).size + (a0_1 ++ t129).size ≤ 9223372036854775807
                    · rw [if_pos c30] at H
                      have c30b0 := eq_true c30
                      have c30b1 : decide ((a0_4 ++ x7_16).size + (a0_1 ++ t129).size ≤ 9223372036854775807) = true := decide_eq_true c30
                      try have c30b2 : (9223372036854775807 < (a0_4 ++ x7_16).size + (a0_1 ++ t129).size) = False := eq_false (Nat.not_lt.2 c30)
                      obtain rfl := Option.some.inj H
                      have hnb31 := NB127_126.out
                      have hnc31 := NB126_127.out
                      have hcz32_0 : wc.cell? ⟨gb127, 0, none⟩ = some (.bool true) := (blk_cell BK127.out 0).trans rfl
                      have hcz32_1 : wc.cell? ⟨gb127, 1, none⟩ = some (.string a1_1) := (blk_cell BK127.out 1).trans rfl
                      have hcz32_2 : wc.cell? ⟨gb127, 2, none⟩ = some (.int .i64 a1_2) := (blk_cell BK127.out 2).trans rfl
                      have hfz32_0 := blk_frozen BK127.out 0
                      have hfz32_1 := blk_frozen BK127.out 1
                      have hfz32_2 := blk_frozen BK127.out 2
                      have hcz33_0 : wc.cell? ⟨gb126, 0, none⟩ = some (.string a0_0) := (blk_cell BK126.out 0).trans rfl
                      have hcz33_1 : wc.cell? ⟨gb126, 1, none⟩ = some (.string a0_1) := (blk_cell BK126.out 1).trans rfl
                      have hcz33_2 : wc.cell? ⟨gb126, 2, none⟩ = some (.string a0_2) := (blk_cell BK126.out 2).trans rfl
                      have hcz33_3 : wc.cell? ⟨gb126, 3, none⟩ = some (.string a0_3) := (blk_cell BK126.out 3).trans rfl
                      have hcz33_4 : wc.cell? ⟨gb126, 4, none⟩ = some (.string a0_4) := (blk_cell BK126.out 4).trans rfl
                      have hcz33_5 : wc.cell? ⟨gb126, 5, none⟩ = some (.string a0_5) := (blk_cell BK126.out 5).trans rfl
                      have hcz33_6 : wc.cell? ⟨gb126, 6, none⟩ = some (.string a0_6) := (blk_cell BK126.out 6).trans rfl
                      have hcz33_7 : wc.cell? ⟨gb126, 7, none⟩ = some (.bool a0_7) := (blk_cell BK126.out 7).trans rfl
                      have hcz33_8 : wc.cell? ⟨gb126, 8, none⟩ = some (.bool a0_8) := (blk_cell BK126.out 8).trans rfl
                      have hcz33_9 : wc.cell? ⟨gb126, 9, none⟩ = some (.slice A0_9 l0_9.length c0_9) := (blk_cell BK126.out 9).trans rfl
                      have hfz33_0 := blk_frozen BK126.out 0
                      have hfz33_1 := blk_frozen BK126.out 1
                      have hfz33_2 := blk_frozen BK126.out 2
                      have hfz33_3 := blk_frozen BK126.out 3
                      have hfz33_4 := blk_frozen BK126.out 4
                      have hfz33_5 := blk_frozen BK126.out 5
                      have hfz33_6 := blk_frozen BK126.out 6
                      have hfz33_7 := blk_frozen BK126.out 7
                      have hfz33_8 := blk_frozen BK126.out 8
                      have hfz33_9 := blk_frozen BK126.out 9
                      go_wp2
                      go_ret
                      exact ⟨by first | rfl | (simp [errW_none, errW_some] <;> rfl) | (simp [*, errW_none, errW_some] <;> rfl), by repeat (first | (with_reducible first | exact HB.out | apply below_alloc | apply pw_below_drewN | apply below_drew1 | refine below_set ?_ GE126.out | refine below_set ?_ GE127.out) | exact HB.out)⟩
                    · rw [if_neg c30] at H
                      exact absurd H (by simp)
                  · rw [if_neg c29] at H
                    exact absurd H (by simp)
              · rw [if_neg c24] at H
                exact absurd H (by simp)
            · replace c23 := Bool.eq_false_iff.mpr c23
              subst c23
              have H1 : (if t129.toList = ([] : List UInt8) then (some x7_16) else (if a0_1.size + t129.size ≤ 9223372036854775807 then (if x7_16.size + (a0_1 ++ t129).size ≤ 9223372036854775807 then (some (x7_16 ++ (a0_1 ++ t129))) else (none)) else (none))) = some r := by rw [if_neg (show ¬ (false = true) by decide)] at H; exact H
              clear H
              have H := H1
              clear H1
              by_cases c34 : t129.toList = ([] : List UInt8)
              · rw [if_pos c34] at H
                have c34b0 : (t129.toList == ([] : List UInt8)) = true := beq_iff_eq.mpr c34
                (try have c34b8 : t129.toList.isEmpty = true := by simpa using c34)
                have c34b1 : (t129.toList != ([] : List UInt8)) = false := bne_eq_false_iff_eq.mpr c34
                clear c34
                obtain rfl := Option.some.inj H
                have hnb35 := NB127_126.out
                have hnc35 := NB126_127.out
                have hcz36_0 : wc.cell? ⟨gb127, 0, none⟩ = some (.bool false) := (blk_cell BK127.out 0).trans rfl
                have hcz36_1 : wc.cell? ⟨gb127, 1, none⟩ = some (.string a1_1) := (blk_cell BK127.out 1).trans rfl
                have hcz36_2 : wc.cell? ⟨gb127, 2, none⟩ = some (.int .i64 a1_2) := (blk_cell BK127.out 2).trans rfl
                have hfz36_0 := blk_frozen BK127.out 0
                have hfz36_1 := blk_frozen BK127.out 1
                have hfz36_2 := blk_frozen BK127.out 2
                go_wp2
                go_ret
                exact ⟨by first | rfl | (simp [errW_none, errW_some] <;> rfl) | (simp [*, errW_none, errW_some] <;> rfl), by repeat (first | (with_reducible first | exact HB.out | apply below_alloc | apply pw_below_drewN | apply below_drew1 | refine below_set ?_ GE126.out | refine below_set ?_ GE127.out) | exact HB.out)⟩
              · rw [if_neg c34] at H
                have c34b0 : (t129.toList == ([] : List UInt8)) = false := beq_eq_false_iff_ne.mpr c34
                (try have c34b8 : t129.toList.isEmpty = false := by simpa using c34)
                have c34b1 : (t129.toList != ([] : List UInt8)) = true := bne_iff_ne.mpr c34
                by_cases c37 : a0_1.size + t129.size ≤ 9223372036854775807
                · rw [if_pos c37] at H
                  have c37b0 := eq_true c37
                  have c37b1 : decide (a0_1.size + t129.size ≤ 9223372036854775807) = true := decide_eq_true c37
                  try have c37b2 : (9223372036854775807 < a0_1.size + t129.size) = False := eq_false (Nat.not_lt.2 c37)
                  by_cases c38 : x7_16.size + (a0_1 ++ t129).size ≤ 9223372036854775807
                  · rw [if_pos c38] at H
                    have c38b0 := eq_true c38
                    have c38b1 : decide (x7_16.size + (a0_1 ++ t129).size ≤ 9223372036854775807) = true := decide_eq_true c38
                    try have c38b2 : (9223372036854775807 < x7_16.size + (a0_1 ++ t129).size) = False := eq_false (Nat.not_lt.2 c38)
                    obtain rfl := Option.some.inj H
                    have hnb39 := NB127_126.out
                    have hnc39 := NB126_127.out
                    have hcz40_0 : wc.cell? ⟨gb127, 0, none⟩ = some (.bool false) := (blk_cell BK127.out 0).trans rfl
                    have hcz40_1 : wc.cell? ⟨gb127, 1, none⟩ = some (.string a1_1) := (blk_cell BK127.out 1).trans rfl
                    have hcz40_2 : wc.cell? ⟨gb127, 2, none⟩ = some (.int .i64 a1_2) := (blk_cell BK127.out 2).trans rfl
                    have hfz40_0 := blk_frozen BK127.out 0
                    have hfz40_1 := blk_frozen BK127.out 1
                    have hfz40_2 := blk_frozen BK127.out 2
                    have hcz41_0 : wc.cell? ⟨gb126, 0, none⟩ = some (.string a0_0) := (blk_cell BK126.out 0).trans rfl
                    have hcz41_1 : wc.cell? ⟨gb126, 1, none⟩ = some (.string a0_1) := (blk_cell BK126.out 1).trans rfl
                    have hcz41_2 : wc.cell? ⟨gb126, 2, none⟩ = some (.string a0_2) := (blk_cell BK126.out 2).trans rfl
                    have hcz41_3 : wc.cell? ⟨gb126, 3, none⟩ = some (.string a0_3) := (blk_cell BK126.out 3).trans rfl
                    have hcz41_4 : wc.cell? ⟨gb126, 4, none⟩ = some (.string a0_4) := (blk_cell BK126.out 4).trans rfl
                    have hcz41_5 : wc.cell? ⟨gb126, 5, none⟩ = some (.string a0_5) := (blk_cell BK126.out 5).trans rfl
                    have hcz41_6 : wc.cell? ⟨gb126, 6, none⟩ = some (.string a0_6) := (blk_cell BK126.out 6).trans rfl
                    have hcz41_7 : wc.cell? ⟨gb126, 7, none⟩ = some (.bool a0_7) := (blk_cell BK126.out 7).trans rfl
                    have hcz41_8 : wc.cell? ⟨gb126, 8, none⟩ = some (.bool a0_8) := (blk_cell BK126.out 8).trans rfl
                    have hcz41_9 : wc.cell? ⟨gb126, 9, none⟩ = some (.slice A0_9 l0_9.length c0_9) := (blk_cell BK126.out 9).trans rfl
                    have hfz41_0 := blk_frozen BK126.out 0
                    have hfz41_1 := blk_frozen BK126.out 1
                    have hfz41_2 := blk_frozen BK126.out 2
                    have hfz41_3 := blk_frozen BK126.out 3
                    have hfz41_4 := blk_frozen BK126.out 4
                    have hfz41_5 := blk_frozen BK126.out 5
                    have hfz41_6 := blk_frozen BK126.out 6
                    have hfz41_7 := blk_frozen BK126.out 7
                    have hfz41_8 := blk_frozen BK126.out 8
                    have hfz41_9 := blk_frozen BK126.out 9
                    go_wp2
                    go_ret
                    exact ⟨by first | rfl | (simp [errW_none, errW_some] <;> rfl) | (simp [*, errW_none, errW_some] <;> rfl), by repeat (first | (with_reducible first | exact HB.out | apply below_alloc | apply pw_below_drewN | apply below_drew1 | refine below_set ?_ GE126.out | refine below_set ?_ GE127.out) | exact HB.out)⟩
                  · rw [if_neg c38] at H
                    exact absurd H (by simp)
                · rw [if_neg c37] at H
                  exact absurd H (by simp)

/-! ### locale_Locale_Money: function 19 -/
def locale_Locale_Money.f (a0_0 : ByteArray) (a0_1 : ByteArray) (a0_2 : ByteArray) (a0_3 : ByteArray) (a0_4 : ByteArray) (a0_5 : ByteArray) (a0_6 : ByteArray) (a0_7 : Bool) (a0_8 : Bool) (l0_9 : List Int) (a1 : ByteArray) : Option (ByteArray) := if a0_8 = true then (if a0_7 = true then (if a0_6.size + 2 ≤ 9223372036854775807 then (if (a0_6 ++ (⟨#[194, 160]⟩ : ByteArray)).size + a1.size ≤ 9223372036854775807 then (some ((a0_6 ++ (⟨#[194, 160]⟩ : ByteArray)) ++ a1)) else (none)) else (none)) else (if a1.size + 2 ≤ 9223372036854775807 then (if (a1 ++ (⟨#[194, 160]⟩ : ByteArray)).size + a0_6.size ≤ 9223372036854775807 then (some ((a1 ++ (⟨#[194, 160]⟩ : ByteArray)) ++ a0_6)) else (none)) else (none))) else (if a0_7 = true then (if a0_6.size + 0 ≤ 9223372036854775807 then (if (a0_6 ++ (⟨#[]⟩ : ByteArray)).size + a1.size ≤ 9223372036854775807 then (some ((a0_6 ++ (⟨#[]⟩ : ByteArray)) ++ a1)) else (none)) else (none)) else (if a1.size + 0 ≤ 9223372036854775807 then (if (a1 ++ (⟨#[]⟩ : ByteArray)).size + a0_6.size ≤ 9223372036854775807 then (some ((a1 ++ (⟨#[]⟩ : ByteArray)) ++ a0_6)) else (none)) else (none)))
set_option maxHeartbeats 8000000 in
set_option maxRecDepth 100000 in
theorem locale_Locale_Money.calls (a0_0 : ByteArray) (a0_1 : ByteArray) (a0_2 : ByteArray) (a0_3 : ByteArray) (a0_4 : ByteArray) (a0_5 : ByteArray) (a0_6 : ByteArray) (a0_7 : Bool) (a0_8 : Bool) (A0_9 : Option Addr) (c0_9 : Nat) (l0_9 : List Int) (a1 : ByteArray) (r : ByteArray) (w : World) (hr0_9 : Kd.C (Kd.int .i64) w A0_9 l0_9.length l0_9) (hc0_9 : l0_9.length ≤ c0_9) (h : locale_Locale_Money.f a0_0 a0_1 a0_2 a0_3 a0_4 a0_5 a0_6 a0_7 a0_8 l0_9 a1 = some r) :
    Calls Tryd.prog 19 #[.agg #[.string a0_0, .string a0_1, .string a0_2, .string a0_3, .string a0_4, .string a0_5, .string a0_6, .bool a0_7, .bool a0_8, .slice A0_9 l0_9.length c0_9], .string a1] w fun e w' => e = .returned (.string r) ∧ Below w.heap.size w w' := by
  have hu25 := Tryd.underlying25
  have HR0_9 := Aside0.mk hr0_9
  have HC0_9 := Aside0.mk hc0_9
  clear hr0_9 hc0_9
  have HB := Aside0.mk (Below.refl w.heap.size w)
  have H : (if a0_8 = true then (if a0_7 = true then (if a0_6.size + 2 ≤ 9223372036854775807 then (if (a0_6 ++ (⟨#[194, 160]⟩ : ByteArray)).size + a1.size ≤ 9223372036854775807 then (some ((a0_6 ++ (⟨#[194, 160]⟩ : ByteArray)) ++ a1)) else (none)) else (none)) else (if a1.size + 2 ≤ 9223372036854775807 then (if (a1 ++ (⟨#[194, 160]⟩ : ByteArray)).size + a0_6.size ≤ 9223372036854775807 then (some ((a1 ++ (⟨#[194, 160]⟩ : ByteArray)) ++ a0_6)) else (none)) else (none))) else (if a0_7 = true then (if a0_6.size + 0 ≤ 9223372036854775807 then (if (a0_6 ++ (⟨#[]⟩ : ByteArray)).size + a1.size ≤ 9223372036854775807 then (some ((a0_6 ++ (⟨#[]⟩ : ByteArray)) ++ a1)) else (none)) else (none)) else (if a1.size + 0 ≤ 9223372036854775807 then (if (a1 ++ (⟨#[]⟩ : ByteArray)).size + a0_6.size ≤ 9223372036854775807 then (some ((a1 ++ (⟨#[]⟩ : ByteArray)) ++ a0_6)) else (none)) else (none)))) = some r := h
  clear h
  by_cases c3 : a0_8 = true
  · subst c3
    have H1 : (if a0_7 = true then (if a0_6.size + 2 ≤ 9223372036854775807 then (if (a0_6 ++ (⟨#[194, 160]⟩ : ByteArray)).size + a1.size ≤ 9223372036854775807 then (some ((a0_6 ++ (⟨#[194, 160]⟩ : ByteArray)) ++ a1)) else (none)) else (none)) else (if a1.size + 2 ≤ 9223372036854775807 then (if (a1 ++ (⟨#[194, 160]⟩ : ByteArray)).size + a0_6.size ≤ 9223372036854775807 then (some ((a1 ++ (⟨#[194, 160]⟩ : ByteArray)) ++ a0_6)) else (none)) else (none))) = some r := by rw [if_pos rfl] at H; exact H
    clear H
    have H := H1
    clear H1
    by_cases c4 : a0_7 = true
    · subst c4
      have H1 : (if a0_6.size + 2 ≤ 9223372036854775807 then (if (a0_6 ++ (⟨#[194, 160]⟩ : ByteArray)).size + a1.size ≤ 9223372036854775807 then (some ((a0_6 ++ (⟨#[194, 160]⟩ : ByteArray)) ++ a1)) else (none)) else (none)) = some r := by rw [if_pos rfl] at H; exact H
      clear H
      have H := H1
      clear H1
      by_cases c5 : a0_6.size + 2 ≤ 9223372036854775807
      · rw [if_pos c5] at H
        have c5b0 := eq_true c5
        have c5b1 : decide (a0_6.size + 2 ≤ 9223372036854775807) = true := decide_eq_true c5
        try have c5b2 : (9223372036854775807 < a0_6.size + 2) = False := eq_false (Nat.not_lt.2 c5)
        by_cases c6 : (a0_6 ++ (⟨#[194, 160]⟩ : ByteArray)).size + a1.size ≤ 9223372036854775807
        · rw [if_pos c6] at H
          have c6b0 := eq_true c6
          have c6b1 : decide ((a0_6 ++ (⟨#[194, 160]⟩ : ByteArray)).size + a1.size ≤ 9223372036854775807) = true := decide_eq_true c6
          try have c6b2 : (9223372036854775807 < (a0_6 ++ (⟨#[194, 160]⟩ : ByteArray)).size + a1.size) = False := eq_false (Nat.not_lt.2 c6)
          obtain rfl := Option.some.inj H
          go_enter Tryd.func19, Tryd.ntmps19
          go_wp2_with (first | ((with_reducible refine gate_dst (N := 2) rfl ?_); refine box_event ?hg (N := 2) ?hd (cs := #[.string a0_0, .string a0_1, .string a0_2, .string a0_3, .string a0_4, .string a0_5, .string a0_6, .bool true, .bool true, .slice A0_9 l0_9.length c0_9]) (t := 25) ?hr ?_; (case hd => rfl); (case hg => rfl); (case hr => first | (go_simp; done) | (go_simp; rfl)); intro gb133 hg w7 hbox hb; have n0_ := Aside0.mk (below_step (by repeat (first | (with_reducible first | exact HB.out | apply below_alloc | apply pw_below_drewN | apply below_drew1) | exact HB.out)) hb); have n1_ := Aside0.mk (hbox); have n2_ := Aside0.mk ((by rw [hg]; exact (below_size (by repeat (first | (with_reducible first | exact HB.out | apply below_alloc | apply pw_below_drewN | apply below_drew1) | exact HB.out))) : w.heap.size ≤ gb133)); have n3_ := Aside0.mk ((by rw [hg]; exact (below_size (by repeat (first | (with_reducible first | exact HB.out | apply below_alloc | apply pw_below_drewN | apply below_drew1) | exact HB.out))) : w.heap.size ≤ gb133)); clear HB; have HB := n0_; have BK133 := n1_; have GW133 := n2_; have GE133 := n3_; clear n0_ n1_ n2_ n3_; clear hb hbox hg; have hcz8_0 : w7.cell? ⟨gb133, 0, none⟩ = some (.string a0_0) := (blk_cell BK133.out 0).trans rfl; have hcz8_1 : w7.cell? ⟨gb133, 1, none⟩ = some (.string a0_1) := (blk_cell BK133.out 1).trans rfl; have hcz8_2 : w7.cell? ⟨gb133, 2, none⟩ = some (.string a0_2) := (blk_cell BK133.out 2).trans rfl; have hcz8_3 : w7.cell? ⟨gb133, 3, none⟩ = some (.string a0_3) := (blk_cell BK133.out 3).trans rfl; have hcz8_4 : w7.cell? ⟨gb133, 4, none⟩ = some (.string a0_4) := (blk_cell BK133.out 4).trans rfl; have hcz8_5 : w7.cell? ⟨gb133, 5, none⟩ = some (.string a0_5) := (blk_cell BK133.out 5).trans rfl; have hcz8_6 : w7.cell? ⟨gb133, 6, none⟩ = some (.string a0_6) := (blk_cell BK133.out 6).trans rfl; have hcz8_7 : w7.cell? ⟨gb133, 7, none⟩ = some (.bool true) := (blk_cell BK133.out 7).trans rfl; have hcz8_8 : w7.cell? ⟨gb133, 8, none⟩ = some (.bool true) := (blk_cell BK133.out 8).trans rfl; have hcz8_9 : w7.cell? ⟨gb133, 9, none⟩ = some (.slice A0_9 l0_9.length c0_9) := (blk_cell BK133.out 9).trans rfl; have hfz8_0 := blk_frozen BK133.out 0; have hfz8_1 := blk_frozen BK133.out 1; have hfz8_2 := blk_frozen BK133.out 2; have hfz8_3 := blk_frozen BK133.out 3; have hfz8_4 := blk_frozen BK133.out 4; have hfz8_5 := blk_frozen BK133.out 5; have hfz8_6 := blk_frozen BK133.out 6; have hfz8_7 := blk_frozen BK133.out 7; have hfz8_8 := blk_frozen BK133.out 8; have hfz8_9 := blk_frozen BK133.out 9))
          go_ret
          exact ⟨by first | rfl | (simp [errW_none, errW_some] <;> rfl) | (simp [*, errW_none, errW_some] <;> rfl), by repeat (first | (with_reducible first | exact HB.out | apply below_alloc | apply pw_below_drewN | apply below_drew1 | refine below_set ?_ GE133.out) | exact HB.out)⟩
        · rw [if_neg c6] at H
          exact absurd H (by simp)
      · rw [if_neg c5] at H
        exact absurd H (by simp)
    · replace c4 := Bool.eq_false_iff.mpr c4
      subst c4
      have H1 : (if a1.size + 2 ≤ 9223372036854775807 then (if (a1 ++ (⟨#[194, 160]⟩ : ByteArray)).size + a0_6.size ≤ 9223372036854775807 then (some ((a1 ++ (⟨#[194, 160]⟩ : ByteArray)) ++ a0_6)) else (none)) else (none)) = some r := by rw [if_neg (show ¬ (false = true) by decide)] at H; exact H
      clear H
      have H := H1
      clear H1
      by_cases c9 : a1.size + 2 ≤ 9223372036854775807
      · rw [if_pos c9] at H
        have c9b0 := eq_true c9
        have c9b1 : decide (a1.size + 2 ≤ 9223372036854775807) = true := decide_eq_true c9
        try have c9b2 : (9223372036854775807 < a1.size + 2) = False := eq_false (Nat.not_lt.2 c9)
        by_cases c10 : (a1 ++ (⟨#[194, 160]⟩ : ByteArray)).size + a0_6.size ≤ 9223372036854775807
        · rw [if_pos c10] at H
          have c10b0 := eq_true c10
          have c10b1 : decide ((a1 ++ (⟨#[194, 160]⟩ : ByteArray)).size + a0_6.size ≤ 9223372036854775807) = true := decide_eq_true c10
          try have c10b2 : (9223372036854775807 < (a1 ++ (⟨#[194, 160]⟩ : ByteArray)).size + a0_6.size) = False := eq_false (Nat.not_lt.2 c10)
          obtain rfl := Option.some.inj H
          go_enter Tryd.func19, Tryd.ntmps19
          go_wp2_with (first | ((with_reducible refine gate_dst (N := 2) rfl ?_); refine box_event ?hg (N := 2) ?hd (cs := #[.string a0_0, .string a0_1, .string a0_2, .string a0_3, .string a0_4, .string a0_5, .string a0_6, .bool false, .bool true, .slice A0_9 l0_9.length c0_9]) (t := 25) ?hr ?_; (case hd => rfl); (case hg => rfl); (case hr => first | (go_simp; done) | (go_simp; rfl)); intro gb133 hg w11 hbox hb; have n0_ := Aside0.mk (below_step (by repeat (first | (with_reducible first | exact HB.out | apply below_alloc | apply pw_below_drewN | apply below_drew1) | exact HB.out)) hb); have n1_ := Aside0.mk (hbox); have n2_ := Aside0.mk ((by rw [hg]; exact (below_size (by repeat (first | (with_reducible first | exact HB.out | apply below_alloc | apply pw_below_drewN | apply below_drew1) | exact HB.out))) : w.heap.size ≤ gb133)); have n3_ := Aside0.mk ((by rw [hg]; exact (below_size (by repeat (first | (with_reducible first | exact HB.out | apply below_alloc | apply pw_below_drewN | apply below_drew1) | exact HB.out))) : w.heap.size ≤ gb133)); clear HB; have HB := n0_; have BK133 := n1_; have GW133 := n2_; have GE133 := n3_; clear n0_ n1_ n2_ n3_; clear hb hbox hg; have hcz12_0 : w11.cell? ⟨gb133, 0, none⟩ = some (.string a0_0) := (blk_cell BK133.out 0).trans rfl; have hcz12_1 : w11.cell? ⟨gb133, 1, none⟩ = some (.string a0_1) := (blk_cell BK133.out 1).trans rfl; have hcz12_2 : w11.cell? ⟨gb133, 2, none⟩ = some (.string a0_2) := (blk_cell BK133.out 2).trans rfl; have hcz12_3 : w11.cell? ⟨gb133, 3, none⟩ = some (.string a0_3) := (blk_cell BK133.out 3).trans rfl; have hcz12_4 : w11.cell? ⟨gb133, 4, none⟩ = some (.string a0_4) := (blk_cell BK133.out 4).trans rfl; have hcz12_5 : w11.cell? ⟨gb133, 5, none⟩ = some (.string a0_5) := (blk_cell BK133.out 5).trans rfl; have hcz12_6 : w11.cell? ⟨gb133, 6, none⟩ = some (.string a0_6) := (blk_cell BK133.out 6).trans rfl; have hcz12_7 : w11.cell? ⟨gb133, 7, none⟩ = some (.bool false) := (blk_cell BK133.out 7).trans rfl; have hcz12_8 : w11.cell? ⟨gb133, 8, none⟩ = some (.bool true) := (blk_cell BK133.out 8).trans rfl; have hcz12_9 : w11.cell? ⟨gb133, 9, none⟩ = some (.slice A0_9 l0_9.length c0_9) := (blk_cell BK133.out 9).trans rfl; have hfz12_0 := blk_frozen BK133.out 0; have hfz12_1 := blk_frozen BK133.out 1; have hfz12_2 := blk_frozen BK133.out 2; have hfz12_3 := blk_frozen BK133.out 3; have hfz12_4 := blk_frozen BK133.out 4; have hfz12_5 := blk_frozen BK133.out 5; have hfz12_6 := blk_frozen BK133.out 6; have hfz12_7 := blk_frozen BK133.out 7; have hfz12_8 := blk_frozen BK133.out 8; have hfz12_9 := blk_frozen BK133.out 9))
          go_ret
          exact ⟨by first | rfl | (simp [errW_none, errW_some] <;> rfl) | (simp [*, errW_none, errW_some] <;> rfl), by repeat (first | (with_reducible first | exact HB.out | apply below_alloc | apply pw_below_drewN | apply below_drew1 | refine below_set ?_ GE133.out) | exact HB.out)⟩
        · rw [if_neg c10] at H
          exact absurd H (by simp)
      · rw [if_neg c9] at H
        exact absurd H (by simp)
  · replace c3 := Bool.eq_false_iff.mpr c3
    subst c3
    have H1 : (if a0_7 = true then (if a0_6.size + 0 ≤ 9223372036854775807 then (if (a0_6 ++ (⟨#[]⟩ : ByteArray)).size + a1.size ≤ 9223372036854775807 then (some ((a0_6 ++ (⟨#[]⟩ : ByteArray)) ++ a1)) else (none)) else (none)) else (if a1.size + 0 ≤ 9223372036854775807 then (if (a1 ++ (⟨#[]⟩ : ByteArray)).size + a0_6.size ≤ 9223372036854775807 then (some ((a1 ++ (⟨#[]⟩ : ByteArray)) ++ a0_6)) else (none)) else (none))) = some r := by rw [if_neg (show ¬ (false = true) by decide)] at H; exact H
    clear H
    have H := H1
    clear H1
    by_cases c13 : a0_7 = true
    · subst c13
      have H1 : (if a0_6.size + 0 ≤ 9223372036854775807 then (if (a0_6 ++ (⟨#[]⟩ : ByteArray)).size + a1.size ≤ 9223372036854775807 then (some ((a0_6 ++ (⟨#[]⟩ : ByteArray)) ++ a1)) else (none)) else (none)) = some r := by rw [if_pos rfl] at H; exact H
      clear H
      have H := H1
      clear H1
      by_cases c14 : a0_6.size + 0 ≤ 9223372036854775807
      · rw [if_pos c14] at H
        have c14b0 := eq_true c14
        have c14b1 : decide (a0_6.size + 0 ≤ 9223372036854775807) = true := decide_eq_true c14
        try have c14b2 : (9223372036854775807 < a0_6.size + 0) = False := eq_false (Nat.not_lt.2 c14)
        by_cases c15 : (a0_6 ++ (⟨#[]⟩ : ByteArray)).size + a1.size ≤ 9223372036854775807
        · rw [if_pos c15] at H
          have c15b0 := eq_true c15
          have c15b1 : decide ((a0_6 ++ (⟨#[]⟩ : ByteArray)).size + a1.size ≤ 9223372036854775807) = true := decide_eq_true c15
          try have c15b2 : (9223372036854775807 < (a0_6 ++ (⟨#[]⟩ : ByteArray)).size + a1.size) = False := eq_false (Nat.not_lt.2 c15)
          obtain rfl := Option.some.inj H
          go_enter Tryd.func19, Tryd.ntmps19
          go_wp2_with (first | ((with_reducible refine gate_dst (N := 2) rfl ?_); refine box_event ?hg (N := 2) ?hd (cs := #[.string a0_0, .string a0_1, .string a0_2, .string a0_3, .string a0_4, .string a0_5, .string a0_6, .bool true, .bool false, .slice A0_9 l0_9.length c0_9]) (t := 25) ?hr ?_; (case hd => rfl); (case hg => rfl); (case hr => first | (go_simp; done) | (go_simp; rfl)); intro gb133 hg w16 hbox hb; have n0_ := Aside0.mk (below_step (by repeat (first | (with_reducible first | exact HB.out | apply below_alloc | apply pw_below_drewN | apply below_drew1) | exact HB.out)) hb); have n1_ := Aside0.mk (hbox); have n2_ := Aside0.mk ((by rw [hg]; exact (below_size (by repeat (first | (with_reducible first | exact HB.out | apply below_alloc | apply pw_below_drewN | apply below_drew1) | exact HB.out))) : w.heap.size ≤ gb133)); have n3_ := Aside0.mk ((by rw [hg]; exact (below_size (by repeat (first | (with_reducible first | exact HB.out | apply below_alloc | apply pw_below_drewN | apply below_drew1) | exact HB.out))) : w.heap.size ≤ gb133)); clear HB; have HB := n0_; have BK133 := n1_; have GW133 := n2_; have GE133 := n3_; clear n0_ n1_ n2_ n3_; clear hb hbox hg; have hcz17_0 : w16.cell? ⟨gb133, 0, none⟩ = some (.string a0_0) := (blk_cell BK133.out 0).trans rfl; have hcz17_1 : w16.cell? ⟨gb133, 1, none⟩ = some (.string a0_1) := (blk_cell BK133.out 1).trans rfl; have hcz17_2 : w16.cell? ⟨gb133, 2, none⟩ = some (.string a0_2) := (blk_cell BK133.out 2).trans rfl; have hcz17_3 : w16.cell? ⟨gb133, 3, none⟩ = some (.string a0_3) := (blk_cell BK133.out 3).trans rfl; have hcz17_4 : w16.cell? ⟨gb133, 4, none⟩ = some (.string a0_4) := (blk_cell BK133.out 4).trans rfl; have hcz17_5 : w16.cell? ⟨gb133, 5, none⟩ = some (.string a0_5) := (blk_cell BK133.out 5).trans rfl; have hcz17_6 : w16.cell? ⟨gb133, 6, none⟩ = some (.string a0_6) := (blk_cell BK133.out 6).trans rfl; have hcz17_7 : w16.cell? ⟨gb133, 7, none⟩ = some (.bool true) := (blk_cell BK133.out 7).trans rfl; have hcz17_8 : w16.cell? ⟨gb133, 8, none⟩ = some (.bool false) := (blk_cell BK133.out 8).trans rfl; have hcz17_9 : w16.cell? ⟨gb133, 9, none⟩ = some (.slice A0_9 l0_9.length c0_9) := (blk_cell BK133.out 9).trans rfl; have hfz17_0 := blk_frozen BK133.out 0; have hfz17_1 := blk_frozen BK133.out 1; have hfz17_2 := blk_frozen BK133.out 2; have hfz17_3 := blk_frozen BK133.out 3; have hfz17_4 := blk_frozen BK133.out 4; have hfz17_5 := blk_frozen BK133.out 5; have hfz17_6 := blk_frozen BK133.out 6; have hfz17_7 := blk_frozen BK133.out 7; have hfz17_8 := blk_frozen BK133.out 8; have hfz17_9 := blk_frozen BK133.out 9))
          go_ret
          exact ⟨by first | rfl | (simp [errW_none, errW_some] <;> rfl) | (simp [*, errW_none, errW_some] <;> rfl), by repeat (first | (with_reducible first | exact HB.out | apply below_alloc | apply pw_below_drewN | apply below_drew1 | refine below_set ?_ GE133.out) | exact HB.out)⟩
        · rw [if_neg c15] at H
          exact absurd H (by simp)
      · rw [if_neg c14] at H
        exact absurd H (by simp)
    · replace c13 := Bool.eq_false_iff.mpr c13
      subst c13
      have H1 : (if a1.size + 0 ≤ 9223372036854775807 then (if (a1 ++ (⟨#[]⟩ : ByteArray)).size + a0_6.size ≤ 9223372036854775807 then (some ((a1 ++ (⟨#[]⟩ : ByteArray)) ++ a0_6)) else (none)) else (none)) = some r := by rw [if_neg (show ¬ (false = true) by decide)] at H; exact H
      clear H
      have H := H1
      clear H1
      by_cases c18 : a1.size + 0 ≤ 9223372036854775807
      · rw [if_pos c18] at H
        have c18b0 := eq_true c18
        have c18b1 : decide (a1.size + 0 ≤ 9223372036854775807) = true := decide_eq_true c18
        try have c18b2 : (9223372036854775807 < a1.size + 0) = False := eq_false (Nat.not_lt.2 c18)
        by_cases c19 : (a1 ++ (⟨#[]⟩ : ByteArray)).size + a0_6.size ≤ 9223372036854775807
        · rw [if_pos c19] at H
          have c19b0 := eq_true c19
          have c19b1 : decide ((a1 ++ (⟨#[]⟩ : ByteArray)).size + a0_6.size ≤ 9223372036854775807) = true := decide_eq_true c19
          try have c19b2 : (9223372036854775807 < (a1 ++ (⟨#[]⟩ : ByteArray)).size + a0_6.size) = False := eq_false (Nat.not_lt.2 c19)
          obtain rfl := Option.some.inj H
          go_enter Tryd.func19, Tryd.ntmps19
          go_wp2_with (first | ((with_reducible refine gate_dst (N := 2) rfl ?_); refine box_event ?hg (N := 2) ?hd (cs := #[.string a0_0, .string a0_1, .string a0_2, .string a0_3, .string a0_4, .string a0_5, .string a0_6, .bool false, .bool false, .slice A0_9 l0_9.length c0_9]) (t := 25) ?hr ?_; (case hd => rfl); (case hg => rfl); (case hr => first | (go_simp; done) | (go_simp; rfl)); intro gb133 hg w20 hbox hb; have n0_ := Aside0.mk (below_step (by repeat (first | (with_reducible first | exact HB.out | apply below_alloc | apply pw_below_drewN | apply below_drew1) | exact HB.out)) hb); have n1_ := Aside0.mk (hbox); have n2_ := Aside0.mk ((by rw [hg]; exact (below_size (by repeat (first | (with_reducible first | exact HB.out | apply below_alloc | apply pw_below_drewN | apply below_drew1) | exact HB.out))) : w.heap.size ≤ gb133)); have n3_ := Aside0.mk ((by rw [hg]; exact (below_size (by repeat (first | (with_reducible first | exact HB.out | apply below_alloc | apply pw_below_drewN | apply below_drew1) | exact HB.out))) : w.heap.size ≤ gb133)); clear HB; have HB := n0_; have BK133 := n1_; have GW133 := n2_; have GE133 := n3_; clear n0_ n1_ n2_ n3_; clear hb hbox hg; have hcz21_0 : w20.cell? ⟨gb133, 0, none⟩ = some (.string a0_0) := (blk_cell BK133.out 0).trans rfl; have hcz21_1 : w20.cell? ⟨gb133, 1, none⟩ = some (.string a0_1) := (blk_cell BK133.out 1).trans rfl; have hcz21_2 : w20.cell? ⟨gb133, 2, none⟩ = some (.string a0_2) := (blk_cell BK133.out 2).trans rfl; have hcz21_3 : w20.cell? ⟨gb133, 3, none⟩ = some (.string a0_3) := (blk_cell BK133.out 3).trans rfl; have hcz21_4 : w20.cell? ⟨gb133, 4, none⟩ = some (.string a0_4) := (blk_cell BK133.out 4).trans rfl; have hcz21_5 : w20.cell? ⟨gb133, 5, none⟩ = some (.string a0_5) := (blk_cell BK133.out 5).trans rfl; have hcz21_6 : w20.cell? ⟨gb133, 6, none⟩ = some (.string a0_6) := (blk_cell BK133.out 6).trans rfl; have hcz21_7 : w20.cell? ⟨gb133, 7, none⟩ = some (.bool false) := (blk_cell BK133.out 7).trans rfl; have hcz21_8 : w20.cell? ⟨gb133, 8, none⟩ = some (.bool false) := (blk_cell BK133.out 8).trans rfl; have hcz21_9 : w20.cell? ⟨gb133, 9, none⟩ = some (.slice A0_9 l0_9.length c0_9) := (blk_cell BK133.out 9).trans rfl; have hfz21_0 := blk_frozen BK133.out 0; have hfz21_1 := blk_frozen BK133.out 1; have hfz21_2 := blk_frozen BK133.out 2; have hfz21_3 := blk_frozen BK133.out 3; have hfz21_4 := blk_frozen BK133.out 4; have hfz21_5 := blk_frozen BK133.out 5; have hfz21_6 := blk_frozen BK133.out 6; have hfz21_7 := blk_frozen BK133.out 7; have hfz21_8 := blk_frozen BK133.out 8; have hfz21_9 := blk_frozen BK133.out 9))
          go_ret
          exact ⟨by first | rfl | (simp [errW_none, errW_some] <;> rfl) | (simp [*, errW_none, errW_some] <;> rfl), by repeat (first | (with_reducible first | exact HB.out | apply below_alloc | apply pw_below_drewN | apply below_drew1 | refine below_set ?_ GE133.out) | exact HB.out)⟩
        · rw [if_neg c19] at H
          exact absurd H (by simp)
      · rw [if_neg c18] at H
        exact absurd H (by simp)

/-! ### tabardref7_digit: function 47 -/
def tabardref7_digit.f (a0 : Int) : Option (Bool) := if a0 ≥ 48 then (some (decide (a0 ≤ 57))) else (some false)
set_option maxHeartbeats 8000000 in
set_option maxRecDepth 100000 in
theorem tabardref7_digit.calls (a0 : Int) (r : Bool) (w : World) (h : tabardref7_digit.f a0 = some r) :
    Calls Tryd.prog 47 #[.int .u8 a0] w fun e w' => e = .returned (.bool r) ∧ Drawn0 w w' := by
  have H : (if a0 ≥ 48 then (some (decide (a0 ≤ 57))) else (some false)) = some r := h
  clear h
  by_cases c2 : a0 ≥ 48
  · rw [if_pos c2] at H
    have c2b0 : decide (48 ≤ a0) = true := decide_eq_true c2
    clear c2
    obtain rfl := Option.some.inj H
    go_enter Tryd.func47, Tryd.ntmps47
    go_wp2
    go_ret
    exact ⟨by first | rfl | (simp; done) | (simp [*]; done) | (simp [bne]; done), by repeat (first | exact Drawn0.refl _ | apply Drawn0.step)⟩
  · rw [if_neg c2] at H
    have c2b0 : decide (48 ≤ a0) = false := decide_eq_false c2
    clear c2
    obtain rfl := Option.some.inj H
    go_enter Tryd.func47, Tryd.ntmps47
    go_wp2
    go_ret
    exact ⟨by first | rfl | (simp; done) | (simp [*]; done) | (simp [bne]; done), by repeat (first | exact Drawn0.refl _ | apply Drawn0.step)⟩

end Go.Proofs.YtmbhjogohfcjgaaDoor.L
