-- Laid by wip/tools/xprint.py, a program of this session's, over the kit's print. Lean checks it.
import Derived.Test.YtmbhjogohfcjgaaDoorL0
import Derived.Test.YtmbhjogohfcjgaaDoorLe
namespace Go.Proofs.YtmbhjogohfcjgaaDoor.L
open Go.RowKit Go.Proofs.YtmbhjogohfcjgaaDoorW.PrintWords Go.Proofs.YtmbhjogohfcjgaaDoorW.PrintLast Go.Proofs.YtmbhjogohfcjgaaDoorW.PrintMore
attribute [local go_sem] max2_int min2_int max_two min_two max_three min_three max_four min_four   -- for this text's walks alone
set_option linter.unusedVariables false
set_option linter.unusedSimpArgs false

/-! ### tabardlaw11_pick: function 39 -/
def tabardlaw11_pick.f (a0 : Int) (a1 : Int) : Option (Int) := if a0 < 0 then (if a1 = 0 then (none) else (some (Int.tmod (wrap64 (-(wrap64 (a0 + 1)))) a1))) else (if a1 = 0 then (none) else (some (Int.tmod a0 a1)))
set_option maxHeartbeats 8000000 in
set_option maxRecDepth 100000 in
theorem tabardlaw11_pick.calls (a0 : Int) (a1 : Int) (r : Int) (w : World) (h : tabardlaw11_pick.f a0 a1 = some r) :
    Calls Tryd.prog 39 #[.int .i64 a0, .int .i64 a1] w fun e w' => e = .returned (.int .i64 r) ∧ Drawn0 w w' := by
  have H : (if a0 < 0 then (if a1 = 0 then (none) else (some (Int.tmod (wrap64 (-(wrap64 (a0 + 1)))) a1))) else (if a1 = 0 then (none) else (some (Int.tmod a0 a1)))) = some r := h
  clear h
  by_cases c3 : a0 < 0
  · rw [if_pos c3] at H
    have c3b0 : decide (a0 < 0) = true := decide_eq_true c3
    clear c3
    by_cases c4 : a1 = 0
    · rw [if_pos c4] at H
      exact absurd H (by simp)
    · rw [if_neg c4] at H
      have c4b0 : (a1 == 0) = false := beq_eq_false_iff_ne.mpr c4
      have c4b1 : (a1 != 0) = true := bne_iff_ne.mpr c4
      obtain rfl := Option.some.inj H
      go_enter Tryd.func39, Tryd.ntmps39
      go_wp2
      go_ret
      exact ⟨by first | rfl | (simp; done) | (simp [*]; done) | (simp [bne]; done), by repeat (first | exact Drawn0.refl _ | apply Drawn0.step)⟩
  · rw [if_neg c3] at H
    have c3b0 : decide (a0 < 0) = false := decide_eq_false c3
    clear c3
    by_cases c5 : a1 = 0
    · rw [if_pos c5] at H
      exact absurd H (by simp)
    · rw [if_neg c5] at H
      have c5b0 : (a1 == 0) = false := beq_eq_false_iff_ne.mpr c5
      have c5b1 : (a1 != 0) = true := bne_iff_ne.mpr c5
      obtain rfl := Option.some.inj H
      go_enter Tryd.func39, Tryd.ntmps39
      go_wp2
      go_ret
      exact ⟨by first | rfl | (simp; done) | (simp [*]; done) | (simp [bne]; done), by repeat (first | exact Drawn0.refl _ | apply Drawn0.step)⟩

/-! ### locale_Locale_size: function 43 -/
def locale_Locale_size.f (a0_0 : ByteArray) (a0_1 : ByteArray) (a0_2 : ByteArray) (a0_3 : ByteArray) (a0_4 : ByteArray) (a0_5 : ByteArray) (a0_6 : ByteArray) (a0_7 : Bool) (a0_8 : Bool) (l0_9 : List Int) (a1 : Int) : Option (Int) := if (l0_9.length : Int) = 0 then (some 3) else (if 0 ≤ (mn a1 (wrap64 ((l0_9.length : Int) - 1))) then (if (mn a1 (wrap64 ((l0_9.length : Int) - 1))) < (l0_9.length : Int) then (some (mx 1 (rd l0_9 (mn a1 (wrap64 ((l0_9.length : Int) - 1)))))) else (none)) else (none))
set_option maxHeartbeats 8000000 in
set_option maxRecDepth 100000 in
theorem locale_Locale_size.calls (a0_0 : ByteArray) (a0_1 : ByteArray) (a0_2 : ByteArray) (a0_3 : ByteArray) (a0_4 : ByteArray) (a0_5 : ByteArray) (a0_6 : ByteArray) (a0_7 : Bool) (a0_8 : Bool) (A0_9 : Option Addr) (c0_9 : Nat) (l0_9 : List Int) (a1 : Int) (r : Int) (w : World) (hr0_9 : Kd.C (Kd.int .i64) w A0_9 l0_9.length l0_9) (hc0_9 : l0_9.length ≤ c0_9) (h : locale_Locale_size.f a0_0 a0_1 a0_2 a0_3 a0_4 a0_5 a0_6 a0_7 a0_8 l0_9 a1 = some r) :
    Calls Tryd.prog 43 #[.agg #[.string a0_0, .string a0_1, .string a0_2, .string a0_3, .string a0_4, .string a0_5, .string a0_6, .bool a0_7, .bool a0_8, .slice A0_9 l0_9.length c0_9], .int .i64 a1] w fun e w' => e = .returned (.int .i64 r) ∧ Below w.heap.size w w' := by
  have hu25 := Tryd.underlying25
  have HR0_9 := Aside0.mk hr0_9
  have HC0_9 := Aside0.mk hc0_9
  clear hr0_9 hc0_9
  have HB := Aside0.mk (Below.refl w.heap.size w)
  have H : (if (l0_9.length : Int) = 0 then (some 3) else (if 0 ≤ (mn a1 (wrap64 ((l0_9.length : Int) - 1))) then (if (mn a1 (wrap64 ((l0_9.length : Int) - 1))) < (l0_9.length : Int) then (some (mx 1 (rd l0_9 (mn a1 (wrap64 ((l0_9.length : Int) - 1)))))) else (none)) else (none))) = some r := h
  clear h
  by_cases c3 : (l0_9.length : Int) = 0
  · rw [if_pos c3] at H
    have c3b0 : ((l0_9.length : Int) == 0) = true := beq_iff_eq.mpr c3
    have c3b1 : ((l0_9.length : Int) != 0) = false := bne_eq_false_iff_eq.mpr c3
    clear c3
    obtain rfl := Option.some.inj H
    go_enter Tryd.func43, Tryd.ntmps43
    go_wp2_with (first | ((with_reducible refine gate_dst (N := 2) rfl ?_); refine box_event ?hg (N := 2) ?hd (cs := #[.string a0_0, .string a0_1, .string a0_2, .string a0_3, .string a0_4, .string a0_5, .string a0_6, .bool a0_7, .bool a0_8, .slice A0_9 l0_9.length c0_9]) (t := 25) ?hr ?_; (case hd => rfl); (case hg => rfl); (case hr => first | (go_simp; done) | (go_simp; rfl)); intro gb101 hg w4 hbox hb; have n0_ := Aside0.mk (below_step (by repeat (first | (with_reducible first | exact HB.out | apply below_alloc | apply pw_below_drewN | apply below_drew1) | exact HB.out)) hb); have n1_ := Aside0.mk (hbox); have n2_ := Aside0.mk ((by rw [hg]; exact (below_size (by repeat (first | (with_reducible first | exact HB.out | apply below_alloc | apply pw_below_drewN | apply below_drew1) | exact HB.out))) : w.heap.size ≤ gb101)); have n3_ := Aside0.mk ((by rw [hg]; exact (below_size (by repeat (first | (with_reducible first | exact HB.out | apply below_alloc | apply pw_below_drewN | apply below_drew1) | exact HB.out))) : w.heap.size ≤ gb101)); clear HB; have HB := n0_; have BK101 := n1_; have GW101 := n2_; have GE101 := n3_; clear n0_ n1_ n2_ n3_; clear hb hbox hg; have hcz5_0 : w4.cell? ⟨gb101, 0, none⟩ = some (.string a0_0) := (blk_cell BK101.out 0).trans rfl; have hcz5_1 : w4.cell? ⟨gb101, 1, none⟩ = some (.string a0_1) := (blk_cell BK101.out 1).trans rfl; have hcz5_2 : w4.cell? ⟨gb101, 2, none⟩ = some (.string a0_2) := (blk_cell BK101.out 2).trans rfl; have hcz5_3 : w4.cell? ⟨gb101, 3, none⟩ = some (.string a0_3) := (blk_cell BK101.out 3).trans rfl; have hcz5_4 : w4.cell? ⟨gb101, 4, none⟩ = some (.string a0_4) := (blk_cell BK101.out 4).trans rfl; have hcz5_5 : w4.cell? ⟨gb101, 5, none⟩ = some (.string a0_5) := (blk_cell BK101.out 5).trans rfl; have hcz5_6 : w4.cell? ⟨gb101, 6, none⟩ = some (.string a0_6) := (blk_cell BK101.out 6).trans rfl; have hcz5_7 : w4.cell? ⟨gb101, 7, none⟩ = some (.bool a0_7) := (blk_cell BK101.out 7).trans rfl; have hcz5_8 : w4.cell? ⟨gb101, 8, none⟩ = some (.bool a0_8) := (blk_cell BK101.out 8).trans rfl; have hcz5_9 : w4.cell? ⟨gb101, 9, none⟩ = some (.slice A0_9 l0_9.length c0_9) := (blk_cell BK101.out 9).trans rfl; have hfz5_0 := blk_frozen BK101.out 0; have hfz5_1 := blk_frozen BK101.out 1; have hfz5_2 := blk_frozen BK101.out 2; have hfz5_3 := blk_frozen BK101.out 3; have hfz5_4 := blk_frozen BK101.out 4; have hfz5_5 := blk_frozen BK101.out 5; have hfz5_6 := blk_frozen BK101.out 6; have hfz5_7 := blk_frozen BK101.out 7; have hfz5_8 := blk_frozen BK101.out 8; have hfz5_9 := blk_frozen BK101.out 9))
    go_ret
    exact ⟨by first | rfl | (simp [errW_none, errW_some] <;> rfl) | (simp [*, errW_none, errW_some] <;> rfl), by repeat (first | (with_reducible first | exact HB.out | apply below_alloc | apply pw_below_drewN | apply below_drew1 | refine below_set ?_ GE101.out) | exact HB.out)⟩
  · rw [if_neg c3] at H
    have c3b0 : ((l0_9.length : Int) == 0) = false := beq_eq_false_iff_ne.mpr c3
    have c3b1 : ((l0_9.length : Int) != 0) = true := bne_iff_ne.mpr c3
    have c3b2 : ¬ (l0_9 = []) := fun h_ => c3 (by rw [h_]; rfl)
    obtain ⟨ji6, hji6⟩ : ∃ j_ : Int, (mn a1 (wrap64 ((l0_9.length : Int) - 1))) = j_ := ⟨_, rfl⟩
    replace H : (if 0 ≤ (ji6) then (if (ji6) < (l0_9.length : Int) then (some (mx 1 (rd l0_9 (ji6)))) else (none)) else (none)) = some r := by first | (rw [hji6] at H; exact H) | (simp only [hji6] at H ⊢; exact H)
    have hji6_ : (if (wrap64 ((l0_9.length : Int) - 1)) < a1 then (wrap64 ((l0_9.length : Int) - 1)) else a1) = ji6 := hji6
    by_cases c7 : 0 ≤ (ji6)
    · rw [if_pos c7] at H
      have c7b0 : decide (0 ≤ (ji6)) = true := decide_eq_true c7
      clear c7
      by_cases c8 : (ji6) < (l0_9.length : Int)
      · rw [if_pos c8] at H
        have c8b0 : decide ((ji6) < (l0_9.length : Int)) = true := decide_eq_true c8
        clear c8
        obtain ⟨ji9, hji9⟩ : ∃ j_ : Int, (mx 1 (rd l0_9 (ji6))) = j_ := ⟨_, rfl⟩
        replace H : (some ji9) = some r := by first | (rw [hji9] at H; exact H) | (simp only [hji9] at H ⊢; exact H)
        have hji9_ : (if 1 < (rd l0_9 (ji6)) then (rd l0_9 (ji6)) else 1) = ji9 := hji9
        obtain rfl := Option.some.inj H
        go_enter Tryd.func43, Tryd.ntmps43
        go_wp2_with (first | ((with_reducible refine gate_dst (N := 2) rfl ?_); refine box_event ?hg (N := 2) ?hd (cs := #[.string a0_0, .string a0_1, .string a0_2, .string a0_3, .string a0_4, .string a0_5, .string a0_6, .bool a0_7, .bool a0_8, .slice A0_9 l0_9.length c0_9]) (t := 25) ?hr ?_; (case hd => rfl); (case hg => rfl); (case hr => first | (go_simp; done) | (go_simp; rfl)); intro gb101 hg w10 hbox hb; have n0_ := Aside0.mk (below_step (by repeat (first | (with_reducible first | exact HB.out | apply below_alloc | apply pw_below_drewN | apply below_drew1) | exact HB.out)) hb); have n1_ := Aside0.mk (hbox); have n2_ := Aside0.mk ((by rw [hg]; exact (below_size (by repeat (first | (with_reducible first | exact HB.out | apply below_alloc | apply pw_below_drewN | apply below_drew1) | exact HB.out))) : w.heap.size ≤ gb101)); have n3_ := Aside0.mk ((by rw [hg]; exact (below_size (by repeat (first | (with_reducible first | exact HB.out | apply below_alloc | apply pw_below_drewN | apply below_drew1) | exact HB.out))) : w.heap.size ≤ gb101)); clear HB; have HB := n0_; have BK101 := n1_; have GW101 := n2_; have GE101 := n3_; clear n0_ n1_ n2_ n3_; clear hb hbox hg; have hcz11_0 : w10.cell? ⟨gb101, 0, none⟩ = some (.string a0_0) := (blk_cell BK101.out 0).trans rfl; have hcz11_1 : w10.cell? ⟨gb101, 1, none⟩ = some (.string a0_1) := (blk_cell BK101.out 1).trans rfl; have hcz11_2 : w10.cell? ⟨gb101, 2, none⟩ = some (.string a0_2) := (blk_cell BK101.out 2).trans rfl; have hcz11_3 : w10.cell? ⟨gb101, 3, none⟩ = some (.string a0_3) := (blk_cell BK101.out 3).trans rfl; have hcz11_4 : w10.cell? ⟨gb101, 4, none⟩ = some (.string a0_4) := (blk_cell BK101.out 4).trans rfl; have hcz11_5 : w10.cell? ⟨gb101, 5, none⟩ = some (.string a0_5) := (blk_cell BK101.out 5).trans rfl; have hcz11_6 : w10.cell? ⟨gb101, 6, none⟩ = some (.string a0_6) := (blk_cell BK101.out 6).trans rfl; have hcz11_7 : w10.cell? ⟨gb101, 7, none⟩ = some (.bool a0_7) := (blk_cell BK101.out 7).trans rfl; have hcz11_8 : w10.cell? ⟨gb101, 8, none⟩ = some (.bool a0_8) := (blk_cell BK101.out 8).trans rfl; have hcz11_9 : w10.cell? ⟨gb101, 9, none⟩ = some (.slice A0_9 l0_9.length c0_9) := (blk_cell BK101.out 9).trans rfl; have hfz11_0 := blk_frozen BK101.out 0; have hfz11_1 := blk_frozen BK101.out 1; have hfz11_2 := blk_frozen BK101.out 2; have hfz11_3 := blk_frozen BK101.out 3; have hfz11_4 := blk_frozen BK101.out 4; have hfz11_5 := blk_frozen BK101.out 5; have hfz11_6 := blk_frozen BK101.out 6; have hfz11_7 := blk_frozen BK101.out 7; have hfz11_8 := blk_frozen BK101.out 8; have hfz11_9 := blk_frozen BK101.out 9; have p102 : 0 ≤ ((ji6) : Int) := of_decide_eq_true (by first | (with_reducible assumption) | assumption); have q102 : (ji6) < (l0_9.length : Int) := of_decide_eq_true (by first | (with_reducible assumption) | assumption); obtain ⟨ad102, e102, hx102_0⟩ := Kd.at_int HR0_9.out (ji6) p102 q102; cases e102; replace hx102_0 := (HB.out.cell (World.block_lt_of_cell? w _ hx102_0)).trans hx102_0; replace p102 := eq_true p102; replace q102 := eq_true q102))
        go_ret
        exact ⟨by first | rfl | (simp [errW_none, errW_some] <;> rfl) | (simp only [← hji6, ← hji9]; first | rfl | (simp [errW_none, errW_some] <;> rfl)) | (simp [*, errW_none, errW_some] <;> rfl), by repeat (first | (with_reducible first | exact HB.out | apply below_alloc | apply pw_below_drewN | apply below_drew1 | refine below_set ?_ GE101.out) | exact HB.out)⟩
      · rw [if_neg c8] at H
        exact absurd H (by simp)
    · rw [if_neg c7] at H
      exact absurd H (by simp)

/-! ### locale_Locale_Grouped: function 15 -/
def locale_Locale_Grouped.l0 : Nat → ByteArray → ByteArray → Int → ByteArray → ByteArray → ByteArray → ByteArray → ByteArray → ByteArray → ByteArray → Bool → Bool → List Int → Option (ByteArray)
  | 0, _, _, _, _, _, _, _, _, _, _, _, _, _ => none
  | k + 1, x1, x5, x6, x104000, x104001, x104002, x104003, x104004, x104005, x104006, x104007, x104008, x104009 => (locale_Locale_size.f x104000 x104001 x104002 x104003 x104004 x104005 x104006 x104007 x104008 x104009 x6).bind fun t104 => (if (x1.size : Int) > t104 then (if 0 ≤ (wrap64 ((x1.size : Int) - t104)) then (if (wrap64 ((x1.size : Int) - t104)) ≤ (x1.size : Int) then (if x104002.size + (x1.extract ((wrap64 ((x1.size : Int) - t104)) : Int).toNat x1.size).size ≤ 9223372036854775807 then (if (x104002 ++ (x1.extract ((wrap64 ((x1.size : Int) - t104)) : Int).toNat x1.size)).size + x5.size ≤ 9223372036854775807 then (locale_Locale_Grouped.l0 k (x1.extract 0 ((wrap64 ((x1.size : Int) - t104)) : Int).toNat) ((x104002 ++ (x1.extract ((wrap64 ((x1.size : Int) - t104)) : Int).toNat x1.size)) ++ x5) (wrap64 (x6 + 1)) x104000 x104001 x104002 x104003 x104004 x104005 x104006 x104007 x104008 x104009) else (none)) else (none)) else (none)) else (none)) else (if x1.size + x5.size ≤ 9223372036854775807 then (some (x1 ++ x5)) else (none)))
def locale_Locale_Grouped.f (k : Nat) (a0_0 : ByteArray) (a0_1 : ByteArray) (a0_2 : ByteArray) (a0_3 : ByteArray) (a0_4 : ByteArray) (a0_5 : ByteArray) (a0_6 : ByteArray) (a0_7 : Bool) (a0_8 : Bool) (l0_9 : List Int) (a1 : ByteArray) : Option (ByteArray) := locale_Locale_Grouped.l0 k a1 (⟨#[]⟩ : ByteArray) 0 a0_0 a0_1 a0_2 a0_3 a0_4 a0_5 a0_6 a0_7 a0_8 l0_9
theorem locale_Locale_Grouped.mono_l : ∀ k, (∀ y0 y1 y2 y3 y4 y5 y6 y7 y8 y9 y10 y11 y12, LeO (locale_Locale_Grouped.l0 k y0 y1 y2 y3 y4 y5 y6 y7 y8 y9 y10 y11 y12) (locale_Locale_Grouped.l0 (k + 1) y0 y1 y2 y3 y4 y5 y6 y7 y8 y9 y10 y11 y12))
  | 0 => fun _ _ _ _ _ _ _ _ _ _ _ _ _ r h => by simp [locale_Locale_Grouped.l0] at h
  | k + 1 => by
    have ih0 := locale_Locale_Grouped.mono_l k
    · intro y0 y1 y2 y3 y4 y5 y6 y7 y8 y9 y10 y11 y12
      unfold locale_Locale_Grouped.l0
      repeat' first
      | (with_reducible exact ih0 _ _ _ _ _ _ _ _ _ _ _ _ _)
      | (with_reducible exact LeO.refl _)
      | (with_reducible exact LeO.none _)
      | (with_reducible refine LeO.ite ?_ ?_)
      | (with_reducible refine LeO.bind ?_ (fun _ => ?_))
      | exact ih0 _ _ _ _ _ _ _ _ _ _ _ _ _
      | exact LeO.none _
      | refine LeO.ite ?_ ?_
      | refine LeO.bind ?_ (fun _ => ?_)
theorem locale_Locale_Grouped.mono : ∀ a0 a1 a2 a3 a4 a5 a6 a7 a8 a9 a10 k, LeO (locale_Locale_Grouped.f k a0 a1 a2 a3 a4 a5 a6 a7 a8 a9 a10) (locale_Locale_Grouped.f (k + 1) a0 a1 a2 a3 a4 a5 a6 a7 a8 a9 a10) := by
  intro a0 a1 a2 a3 a4 a5 a6 a7 a8 a9 a10 k
  have ih0 := locale_Locale_Grouped.mono_l k
  unfold locale_Locale_Grouped.f
  repeat' first
      | (with_reducible exact ih0 _ _ _ _ _ _ _ _ _ _ _ _ _)
      | (with_reducible exact LeO.refl _)
      | (with_reducible exact LeO.none _)
      | (with_reducible refine LeO.ite ?_ ?_)
      | (with_reducible refine LeO.bind ?_ (fun _ => ?_))
      | exact ih0 _ _ _ _ _ _ _ _ _ _ _ _ _
      | exact LeO.none _
      | refine LeO.ite ?_ ?_
      | refine LeO.bind ?_ (fun _ => ?_)
set_option maxHeartbeats 8000000 in
set_option maxRecDepth 100000 in
theorem locale_Locale_Grouped.calls (k : Nat) (a0_0 : ByteArray) (a0_1 : ByteArray) (a0_2 : ByteArray) (a0_3 : ByteArray) (a0_4 : ByteArray) (a0_5 : ByteArray) (a0_6 : ByteArray) (a0_7 : Bool) (a0_8 : Bool) (A0_9 : Option Addr) (c0_9 : Nat) (l0_9 : List Int) (a1 : ByteArray) (r : ByteArray) (w : World) (hr0_9 : Kd.C (Kd.int .i64) w A0_9 l0_9.length l0_9) (hc0_9 : l0_9.length ≤ c0_9) (h : locale_Locale_Grouped.f k a0_0 a0_1 a0_2 a0_3 a0_4 a0_5 a0_6 a0_7 a0_8 l0_9 a1 = some r) :
    Calls Tryd.prog 15 #[.agg #[.string a0_0, .string a0_1, .string a0_2, .string a0_3, .string a0_4, .string a0_5, .string a0_6, .bool a0_7, .bool a0_8, .slice A0_9 l0_9.length c0_9], .string a1] w fun e w' => e = .returned (.string r) ∧ Below w.heap.size w w' := by
  have hu25 := Tryd.underlying25
  have HR0_9 := Aside0.mk hr0_9
  have HC0_9 := Aside0.mk hc0_9
  clear hr0_9 hc0_9
  have HB := Aside0.mk (Below.refl w.heap.size w)
  have H : (locale_Locale_Grouped.l0 k a1 (⟨#[]⟩ : ByteArray) 0 a0_0 a0_1 a0_2 a0_3 a0_4 a0_5 a0_6 a0_7 a0_8 l0_9) = some r := h
  clear h
  have H' := Aside0.mk H
  clear H
  go_enter Tryd.func15, Tryd.ntmps15
  go_wp2_with (first | ((with_reducible refine gate_dst (N := 2) rfl ?_); refine box_event ?hg (N := 2) ?hd (cs := #[.string a0_0, .string a0_1, .string a0_2, .string a0_3, .string a0_4, .string a0_5, .string a0_6, .bool a0_7, .bool a0_8, .slice A0_9 l0_9.length c0_9]) (t := 25) ?hr ?_; (case hd => rfl); (case hg => rfl); (case hr => first | (go_simp; done) | (go_simp; rfl)); intro gb103 hg w3 hbox hb; have n0_ := Aside0.mk (below_step (by repeat (first | (with_reducible first | exact HB.out | apply below_alloc | apply pw_below_drewN | apply below_drew1) | exact HB.out)) hb); have n1_ := Aside0.mk (hbox); have n2_ := Aside0.mk ((by rw [hg]; exact (below_size (by repeat (first | (with_reducible first | exact HB.out | apply below_alloc | apply pw_below_drewN | apply below_drew1) | exact HB.out))) : w.heap.size ≤ gb103)); have n3_ := Aside0.mk ((by rw [hg]; exact (below_size (by repeat (first | (with_reducible first | exact HB.out | apply below_alloc | apply pw_below_drewN | apply below_drew1) | exact HB.out))) : w.heap.size ≤ gb103)); clear HB; have HB := n0_; have BK103 := n1_; have GW103 := n2_; have GE103 := n3_; clear n0_ n1_ n2_ n3_; clear hb hbox hg))
  repeat (go_quiet (first | ((with_reducible refine gate_dst (N := 2) rfl ?_); refine box_event ?hg (N := 2) ?hd (cs := #[.string a0_0, .string a0_1, .string a0_2, .string a0_3, .string a0_4, .string a0_5, .string a0_6, .bool a0_7, .bool a0_8, .slice A0_9 l0_9.length c0_9]) (t := 25) ?hr ?_; (case hd => rfl); (case hg => rfl); (case hr => first | (go_simp; done) | (go_simp; rfl)); intro gb103 hg w3 hbox hb; have n0_ := Aside0.mk (below_step (by repeat (first | (with_reducible first | exact HB.out | apply below_alloc | apply pw_below_drewN | apply below_drew1) | exact HB.out)) hb); have n1_ := Aside0.mk (hbox); have n2_ := Aside0.mk ((by rw [hg]; exact (below_size (by repeat (first | (with_reducible first | exact HB.out | apply below_alloc | apply pw_below_drewN | apply below_drew1) | exact HB.out))) : w.heap.size ≤ gb103)); have n3_ := Aside0.mk ((by rw [hg]; exact (below_size (by repeat (first | (with_reducible first | exact HB.out | apply below_alloc | apply pw_below_drewN | apply below_drew1) | exact HB.out))) : w.heap.size ≤ gb103)); clear HB; have HB := n0_; have BK103 := n1_; have GW103 := n2_; have GE103 := n3_; clear n0_ n1_ n2_ n3_; clear hb hbox hg)); try go_wp2_with (first | ((with_reducible refine gate_dst (N := 2) rfl ?_); refine box_event ?hg (N := 2) ?hd (cs := #[.string a0_0, .string a0_1, .string a0_2, .string a0_3, .string a0_4, .string a0_5, .string a0_6, .bool a0_7, .bool a0_8, .slice A0_9 l0_9.length c0_9]) (t := 25) ?hr ?_; (case hd => rfl); (case hg => rfl); (case hr => first | (go_simp; done) | (go_simp; rfl)); intro gb103 hg w3 hbox hb; have n0_ := Aside0.mk (below_step (by repeat (first | (with_reducible first | exact HB.out | apply below_alloc | apply pw_below_drewN | apply below_drew1) | exact HB.out)) hb); have n1_ := Aside0.mk (hbox); have n2_ := Aside0.mk ((by rw [hg]; exact (below_size (by repeat (first | (with_reducible first | exact HB.out | apply below_alloc | apply pw_below_drewN | apply below_drew1) | exact HB.out))) : w.heap.size ≤ gb103)); have n3_ := Aside0.mk ((by rw [hg]; exact (below_size (by repeat (first | (with_reducible first | exact HB.out | apply below_alloc | apply pw_below_drewN | apply below_drew1) | exact HB.out))) : w.heap.size ≤ gb103)); clear HB; have HB := n0_; have BK103 := n1_; have GW103 := n2_; have GE103 := n3_; clear n0_ n1_ n2_ n3_; clear hb hbox hg)))
  go_loopg [1, 5, 6] k (fun kq v1 v5 v6 w' => ∃ (x1_1 : ByteArray) (x5_1 : ByteArray) (x6_1 : Int), v1 = .string x1_1 ∧ v5 = .string x5_1 ∧ v6 = .int .i64 x6_1 ∧ Aside0 (locale_Locale_Grouped.l0 kq x1_1 x5_1 x6_1 a0_0 a0_1 a0_2 a0_3 a0_4 a0_5 a0_6 a0_7 a0_8 l0_9 = some r) ∧ Aside0 (kq ≤ k) ∧ Aside0 (w'.heap[gb103]? = some (.cells #[.string a0_0, .string a0_1, .string a0_2, .string a0_3, .string a0_4, .string a0_5, .string a0_6, .bool a0_7, .bool a0_8, (.slice A0_9 l0_9.length c0_9)] 25 (0, 0))) ∧ Aside0 (Below w.heap.size w w'))
  case atStart => exact ⟨(a1), ((⟨#[]⟩ : ByteArray)), (0), (by first | rfl | (simp; done) | (simp [*]; done) | (simp [bne]; done)), (by first | rfl | (simp; done) | (simp [*]; done) | (simp [bne]; done)), (by first | rfl | (simp; done) | (simp [*]; done) | (simp [bne]; done)), H', ⟨Nat.le_refl _⟩, ⟨by (with_reducible repeat (first | refine blk_drewN ?_ _ | refine blk_drew ?_ | refine blk_alloc ?_ _)); exact BK103.out⟩, ⟨by repeat (first | (with_reducible first | exact HB.out | apply below_alloc | apply pw_below_drewN | apply below_drew1 | refine below_set ?_ GE103.out) | exact HB.out)⟩⟩
  case round =>
    clear H'
    try clear c1
    try clear p2
    obtain ⟨x1_1, x5_1, x6_1, rfl, rfl, rfl, HA, HK1, BK103, HB⟩ := hrel
    cases gk with
    | zero => exact absurd HA.out (by simp [locale_Locale_Grouped.l0])
    | succ k1 =>
      have H := HA.out
      clear HA
      simp only [locale_Locale_Grouped.l0] at H
      replace H := Option.bind_eq_some_iff.mp H
      obtain ⟨t104, A40, H⟩ := H
      replace H : (if (x1_1.size : Int) > t104 then (if 0 ≤ (wrap64 ((x1_1.size : Int) - t104)) then (if (wrap64 ((x1_1.size : Int) - t104)) ≤ (x1_1.size : Int) then (if a0_2.size + (x1_1.extract ((wrap64 ((x1_1.size : Int) - t104)) : Int).toNat x1_1.size).size ≤ 9223372036854775807 then (if (a0_2 ++ (x1_1.extract ((wrap64 ((x1_1.size : Int) - t104)) : Int).toNat x1_1.size)).size + x5_1.size ≤ 9223372036854775807 then (locale_Locale_Grouped.l0 k1 (x1_1.extract 0 ((wrap64 ((x1_1.size : Int) - t104)) : Int).toNat) ((a0_2 ++ (x1_1.extract ((wrap64 ((x1_1.size : Int) - t104)) : Int).toNat x1_1.size)) ++ x5_1) (wrap64 (x6_1 + 1)) a0_0 a0_1 a0_2 a0_3 a0_4 a0_5 a0_6 a0_7 a0_8 l0_9) else (none)) else (none)) else (none)) else (none)) else (if x1_1.size + x5_1.size ≤ 9223372036854775807 then (some (x1_1 ++ x5_1)) else (none))) = some r := H
      have A4 := Aside0.mk A40
      clear A40
      by_cases c5 : (x1_1.size : Int) > t104
      · rw [if_pos c5] at H
        have c5b0 : decide (t104 < (x1_1.size : Int)) = true := decide_eq_true c5
        clear c5
        obtain ⟨ji6, hji6⟩ : ∃ j_ : Int, (wrap64 ((x1_1.size : Int) - t104)) = j_ := ⟨_, rfl⟩
        replace H : (if 0 ≤ (ji6) then (if (ji6) ≤ (x1_1.size : Int) then (if a0_2.size + (x1_1.extract ((ji6) : Int).toNat x1_1.size).size ≤ 9223372036854775807 then (if (a0_2 ++ (x1_1.extract ((ji6) : Int).toNat x1_1.size)).size + x5_1.size ≤ 9223372036854775807 then (locale_Locale_Grouped.l0 k1 (x1_1.extract 0 ((ji6) : Int).toNat) ((a0_2 ++ (x1_1.extract ((ji6) : Int).toNat x1_1.size)) ++ x5_1) (wrap64 (x6_1 + 1)) a0_0 a0_1 a0_2 a0_3 a0_4 a0_5 a0_6 a0_7 a0_8 l0_9) else (none)) else (none)) else (none)) else (none)) = some r := by first | (rw [hji6] at H; exact H) | (simp only [hji6] at H ⊢; exact H)
        (try rw [hji6] at A4)
        have hji6w : (IntKind.i64.wrap ((x1_1.size : Int) - t104)) = ji6 := (i64_w _).trans hji6
        by_cases c7 : 0 ≤ (ji6)
        · rw [if_pos c7] at H
          have c7b0 := eq_true c7
          have c7b1 : decide (0 ≤ (ji6)) = true := decide_eq_true c7
          clear c7
          by_cases c8 : (ji6) ≤ (x1_1.size : Int)
          · rw [if_pos c8] at H
            have c8b0 := eq_true c8
            have c8b1 : decide ((ji6) ≤ (x1_1.size : Int)) = true := decide_eq_true c8
            clear c8
            by_cases c9 : a0_2.size + (x1_1.extract ((ji6) : Int).toNat x1_1.size).size ≤ 9223372036854775807
            · rw [if_pos c9] at H
              have c9b0 := eq_true c9
              have c9b1 : decide (a0_2.size + (x1_1.extract ((ji6) : Int).toNat x1_1.size).size ≤ 9223372036854775807) = true := decide_eq_true c9
              try have c9b2 : (9223372036854775807 < a0_2.size + (x1_1.extract ((ji6) : Int).toNat x1_1.size).size) = False := eq_false (Nat.not_lt.2 c9)
              by_cases c10 : (a0_2 ++ (x1_1.extract ((ji6) : Int).toNat x1_1.size)).size + x5_1.size ≤ 9223372036854775807
              · rw [if_pos c10] at H
                have c10b0 := eq_true c10
                have c10b1 : decide ((a0_2 ++ (x1_1.extract ((ji6) : Int).toNat x1_1.size)).size + x5_1.size ≤ 9223372036854775807) = true := decide_eq_true c10
                try have c10b2 : (9223372036854775807 < (a0_2 ++ (x1_1.extract ((ji6) : Int).toNat x1_1.size)).size + x5_1.size) = False := eq_false (Nat.not_lt.2 c10)
                have c11b0 := eq_true (of_decide_eq_true (by first | (with_reducible assumption) | assumption) : 0 ≤ (ji6))
                have c12b0 := eq_true (of_decide_eq_true (by first | (with_reducible assumption) | assumption) : (ji6) ≤ (x1_1.size : Int))
                have H' := Aside0.mk H
                clear H
                have hcz13_0 : wr.cell? ⟨gb103, 0, none⟩ = some (.string a0_0) := (blk_cell BK103.out 0).trans rfl
                have hcz13_1 : wr.cell? ⟨gb103, 1, none⟩ = some (.string a0_1) := (blk_cell BK103.out 1).trans rfl
                have hcz13_2 : wr.cell? ⟨gb103, 2, none⟩ = some (.string a0_2) := (blk_cell BK103.out 2).trans rfl
                have hcz13_3 : wr.cell? ⟨gb103, 3, none⟩ = some (.string a0_3) := (blk_cell BK103.out 3).trans rfl
                have hcz13_4 : wr.cell? ⟨gb103, 4, none⟩ = some (.string a0_4) := (blk_cell BK103.out 4).trans rfl
                have hcz13_5 : wr.cell? ⟨gb103, 5, none⟩ = some (.string a0_5) := (blk_cell BK103.out 5).trans rfl
                have hcz13_6 : wr.cell? ⟨gb103, 6, none⟩ = some (.string a0_6) := (blk_cell BK103.out 6).trans rfl
                have hcz13_7 : wr.cell? ⟨gb103, 7, none⟩ = some (.bool a0_7) := (blk_cell BK103.out 7).trans rfl
                have hcz13_8 : wr.cell? ⟨gb103, 8, none⟩ = some (.bool a0_8) := (blk_cell BK103.out 8).trans rfl
                have hcz13_9 : wr.cell? ⟨gb103, 9, none⟩ = some (.slice A0_9 l0_9.length c0_9) := (blk_cell BK103.out 9).trans rfl
                have hfz13_0 := blk_frozen BK103.out 0
                have hfz13_1 := blk_frozen BK103.out 1
                have hfz13_2 := blk_frozen BK103.out 2
                have hfz13_3 := blk_frozen BK103.out 3
                have hfz13_4 := blk_frozen BK103.out 4
                have hfz13_5 := blk_frozen BK103.out 5
                have hfz13_6 := blk_frozen BK103.out 6
                have hfz13_7 := blk_frozen BK103.out 7
                have hfz13_8 := blk_frozen BK103.out 8
                have hfz13_9 := blk_frozen BK103.out 9
                go_wp2_with (first | (go_at_call 43; (with_reducible refine (locale_Locale_size.calls a0_0 a0_1 a0_2 a0_3 a0_4 a0_5 a0_6 a0_7 a0_8 _ _ l0_9 x6_1 t104 _ ?side1 ?side2 A4.out).mono ?_); (case side1 => repeat (first | exact (Kd.C_below HR0_9.out HB.out) | (with_reducible refine Kd.C_alloc ?_ _) | (with_reducible refine Kd.C_drewN ?_ _) | (with_reducible refine Kd.C_drew ?_))); (case side2 => exact HC0_9.out); rintro e w14 ⟨rfl, hb⟩; have n0_ := Aside0.mk (blk_below (g := gb103) (o := .cells #[.string a0_0, .string a0_1, .string a0_2, .string a0_3, .string a0_4, .string a0_5, .string a0_6, .bool a0_7, .bool a0_8, .slice A0_9 l0_9.length c0_9] 25 (0, 0)) (by (with_reducible repeat (first | refine blk_drewN ?_ _ | refine blk_drew ?_ | refine blk_alloc ?_ _)); exact BK103.out) hb); have n1_ := Aside0.mk (below_step (by repeat (first | (with_reducible first | exact HB.out | apply below_alloc | apply pw_below_drewN | apply below_drew1 | refine below_set ?_ GE103.out) | exact HB.out)) hb); clear BK103; clear HB; have BK103 := n0_; have HB := n1_; clear n0_ n1_; (try clear hb); (try clear hb2); (try clear hk); (try clear hi); have hcz15_0 : w14.cell? ⟨gb103, 0, none⟩ = some (.string a0_0) := (blk_cell BK103.out 0).trans rfl; have hcz15_1 : w14.cell? ⟨gb103, 1, none⟩ = some (.string a0_1) := (blk_cell BK103.out 1).trans rfl; have hcz15_2 : w14.cell? ⟨gb103, 2, none⟩ = some (.string a0_2) := (blk_cell BK103.out 2).trans rfl; have hcz15_3 : w14.cell? ⟨gb103, 3, none⟩ = some (.string a0_3) := (blk_cell BK103.out 3).trans rfl; have hcz15_4 : w14.cell? ⟨gb103, 4, none⟩ = some (.string a0_4) := (blk_cell BK103.out 4).trans rfl; have hcz15_5 : w14.cell? ⟨gb103, 5, none⟩ = some (.string a0_5) := (blk_cell BK103.out 5).trans rfl; have hcz15_6 : w14.cell? ⟨gb103, 6, none⟩ = some (.string a0_6) := (blk_cell BK103.out 6).trans rfl; have hcz15_7 : w14.cell? ⟨gb103, 7, none⟩ = some (.bool a0_7) := (blk_cell BK103.out 7).trans rfl; have hcz15_8 : w14.cell? ⟨gb103, 8, none⟩ = some (.bool a0_8) := (blk_cell BK103.out 8).trans rfl; have hcz15_9 : w14.cell? ⟨gb103, 9, none⟩ = some (.slice A0_9 l0_9.length c0_9) := (blk_cell BK103.out 9).trans rfl; have hfz15_0 := blk_frozen BK103.out 0; have hfz15_1 := blk_frozen BK103.out 1; have hfz15_2 := blk_frozen BK103.out 2; have hfz15_3 := blk_frozen BK103.out 3; have hfz15_4 := blk_frozen BK103.out 4; have hfz15_5 := blk_frozen BK103.out 5; have hfz15_6 := blk_frozen BK103.out 6; have hfz15_7 := blk_frozen BK103.out 7; have hfz15_8 := blk_frozen BK103.out 8; have hfz15_9 := blk_frozen BK103.out 9))
                repeat (go_quiet (first | (go_at_call 43; (with_reducible refine (locale_Locale_size.calls a0_0 a0_1 a0_2 a0_3 a0_4 a0_5 a0_6 a0_7 a0_8 _ _ l0_9 x6_1 t104 _ ?side1 ?side2 A4.out).mono ?_); (case side1 => repeat (first | exact (Kd.C_below HR0_9.out HB.out) | (with_reducible refine Kd.C_alloc ?_ _) | (with_reducible refine Kd.C_drewN ?_ _) | (with_reducible refine Kd.C_drew ?_))); (case side2 => exact HC0_9.out); rintro e w14 ⟨rfl, hb⟩; have n0_ := Aside0.mk (blk_below (g := gb103) (o := .cells #[.string a0_0, .string a0_1, .string a0_2, .string a0_3, .string a0_4, .string a0_5, .string a0_6, .bool a0_7, .bool a0_8, .slice A0_9 l0_9.length c0_9] 25 (0, 0)) (by (with_reducible repeat (first | refine blk_drewN ?_ _ | refine blk_drew ?_ | refine blk_alloc ?_ _)); exact BK103.out) hb); have n1_ := Aside0.mk (below_step (by repeat (first | (with_reducible first | exact HB.out | apply below_alloc | apply pw_below_drewN | apply below_drew1 | refine below_set ?_ GE103.out) | exact HB.out)) hb); clear BK103; clear HB; have BK103 := n0_; have HB := n1_; clear n0_ n1_; (try clear hb); (try clear hb2); (try clear hk); (try clear hi); have hcz15_0 : w14.cell? ⟨gb103, 0, none⟩ = some (.string a0_0) := (blk_cell BK103.out 0).trans rfl; have hcz15_1 : w14.cell? ⟨gb103, 1, none⟩ = some (.string a0_1) := (blk_cell BK103.out 1).trans rfl; have hcz15_2 : w14.cell? ⟨gb103, 2, none⟩ = some (.string a0_2) := (blk_cell BK103.out 2).trans rfl; have hcz15_3 : w14.cell? ⟨gb103, 3, none⟩ = some (.string a0_3) := (blk_cell BK103.out 3).trans rfl; have hcz15_4 : w14.cell? ⟨gb103, 4, none⟩ = some (.string a0_4) := (blk_cell BK103.out 4).trans rfl; have hcz15_5 : w14.cell? ⟨gb103, 5, none⟩ = some (.string a0_5) := (blk_cell BK103.out 5).trans rfl; have hcz15_6 : w14.cell? ⟨gb103, 6, none⟩ = some (.string a0_6) := (blk_cell BK103.out 6).trans rfl; have hcz15_7 : w14.cell? ⟨gb103, 7, none⟩ = some (.bool a0_7) := (blk_cell BK103.out 7).trans rfl; have hcz15_8 : w14.cell? ⟨gb103, 8, none⟩ = some (.bool a0_8) := (blk_cell BK103.out 8).trans rfl; have hcz15_9 : w14.cell? ⟨gb103, 9, none⟩ = some (.slice A0_9 l0_9.length c0_9) := (blk_cell BK103.out 9).trans rfl; have hfz15_0 := blk_frozen BK103.out 0; have hfz15_1 := blk_frozen BK103.out 1; have hfz15_2 := blk_frozen BK103.out 2; have hfz15_3 := blk_frozen BK103.out 3; have hfz15_4 := blk_frozen BK103.out 4; have hfz15_5 := blk_frozen BK103.out 5; have hfz15_6 := blk_frozen BK103.out 6; have hfz15_7 := blk_frozen BK103.out 7; have hfz15_8 := blk_frozen BK103.out 8; have hfz15_9 := blk_frozen BK103.out 9)); try go_wp2_with (first | (go_at_call 43; (with_reducible refine (locale_Locale_size.calls a0_0 a0_1 a0_2 a0_3 a0_4 a0_5 a0_6 a0_7 a0_8 _ _ l0_9 x6_1 t104 _ ?side1 ?side2 A4.out).mono ?_); (case side1 => repeat (first | exact (Kd.C_below HR0_9.out HB.out) | (with_reducible refine Kd.C_alloc ?_ _) | (with_reducible refine Kd.C_drewN ?_ _) | (with_reducible refine Kd.C_drew ?_))); (case side2 => exact HC0_9.out); rintro e w14 ⟨rfl, hb⟩; have n0_ := Aside0.mk (blk_below (g := gb103) (o := .cells #[.string a0_0, .string a0_1, .string a0_2, .string a0_3, .string a0_4, .string a0_5, .string a0_6, .bool a0_7, .bool a0_8, .slice A0_9 l0_9.length c0_9] 25 (0, 0)) (by (with_reducible repeat (first | refine blk_drewN ?_ _ | refine blk_drew ?_ | refine blk_alloc ?_ _)); exact BK103.out) hb); have n1_ := Aside0.mk (below_step (by repeat (first | (with_reducible first | exact HB.out | apply below_alloc | apply pw_below_drewN | apply below_drew1 | refine below_set ?_ GE103.out) | exact HB.out)) hb); clear BK103; clear HB; have BK103 := n0_; have HB := n1_; clear n0_ n1_; (try clear hb); (try clear hb2); (try clear hk); (try clear hi); have hcz15_0 : w14.cell? ⟨gb103, 0, none⟩ = some (.string a0_0) := (blk_cell BK103.out 0).trans rfl; have hcz15_1 : w14.cell? ⟨gb103, 1, none⟩ = some (.string a0_1) := (blk_cell BK103.out 1).trans rfl; have hcz15_2 : w14.cell? ⟨gb103, 2, none⟩ = some (.string a0_2) := (blk_cell BK103.out 2).trans rfl; have hcz15_3 : w14.cell? ⟨gb103, 3, none⟩ = some (.string a0_3) := (blk_cell BK103.out 3).trans rfl; have hcz15_4 : w14.cell? ⟨gb103, 4, none⟩ = some (.string a0_4) := (blk_cell BK103.out 4).trans rfl; have hcz15_5 : w14.cell? ⟨gb103, 5, none⟩ = some (.string a0_5) := (blk_cell BK103.out 5).trans rfl; have hcz15_6 : w14.cell? ⟨gb103, 6, none⟩ = some (.string a0_6) := (blk_cell BK103.out 6).trans rfl; have hcz15_7 : w14.cell? ⟨gb103, 7, none⟩ = some (.bool a0_7) := (blk_cell BK103.out 7).trans rfl; have hcz15_8 : w14.cell? ⟨gb103, 8, none⟩ = some (.bool a0_8) := (blk_cell BK103.out 8).trans rfl; have hcz15_9 : w14.cell? ⟨gb103, 9, none⟩ = some (.slice A0_9 l0_9.length c0_9) := (blk_cell BK103.out 9).trans rfl; have hfz15_0 := blk_frozen BK103.out 0; have hfz15_1 := blk_frozen BK103.out 1; have hfz15_2 := blk_frozen BK103.out 2; have hfz15_3 := blk_frozen BK103.out 3; have hfz15_4 := blk_frozen BK103.out 4; have hfz15_5 := blk_frozen BK103.out 5; have hfz15_6 := blk_frozen BK103.out 6; have hfz15_7 := blk_frozen BK103.out 7; have hfz15_8 := blk_frozen BK103.out 8; have hfz15_9 := blk_frozen BK103.out 9)))
                go_roundg k1
                case measure => have := HK1.out; omega
                case rel => exact ⟨(x1_1.extract 0 ((ji6) : Int).toNat), ((a0_2 ++ (x1_1.extract ((ji6) : Int).toNat x1_1.size)) ++ x5_1), (wrap64 (x6_1 + 1)), (by first | rfl | (simp; done) | (simp only [← hji6] <;> (first | rfl | simp)) | (simp [*]; done) | (simp [bne]; done)), (by first | rfl | (simp; done) | (simp only [← hji6] <;> (first | rfl | simp)) | (simp [*]; done) | (simp [bne]; done)), (by first | rfl | (simp; done) | (simp [*]; done) | (simp [bne]; done)), H', ⟨by have := HK1.out; omega⟩, ⟨by (with_reducible repeat (first | refine blk_drewN ?_ _ | refine blk_drew ?_ | refine blk_alloc ?_ _)); exact BK103.out⟩, ⟨by repeat (first | (with_reducible first | exact HB.out | apply below_alloc | apply pw_below_drewN | apply below_drew1 | refine below_set ?_ GE103.out) | exact HB.out)⟩⟩
              · rw [if_neg c10] at H
                exact absurd H (by simp)
            · rw [if_neg c9] at H
              exact absurd H (by simp)
          · rw [if_neg c8] at H
            exact absurd H (by simp)
        · rw [if_neg c7] at H
          exact absurd H (by simp)
      · rw [if_neg c5] at H
        have c5b0 : decide (t104 < (x1_1.size : Int)) = false := decide_eq_false c5
        clear c5
        by_cases c16 : x1_1.size + x5_1.size ≤ 9223372036854775807
        · rw [if_pos c16] at H
          have c16b0 := eq_true c16
          have c16b1 : decide (x1_1.size + x5_1.size ≤ 9223372036854775807) = true := decide_eq_true c16
          try have c16b2 : (9223372036854775807 < x1_1.size + x5_1.size) = False := eq_false (Nat.not_lt.2 c16)
          obtain rfl := Option.some.inj H
          have hcz17_0 : wr.cell? ⟨gb103, 0, none⟩ = some (.string a0_0) := (blk_cell BK103.out 0).trans rfl
          have hcz17_1 : wr.cell? ⟨gb103, 1, none⟩ = some (.string a0_1) := (blk_cell BK103.out 1).trans rfl
          have hcz17_2 : wr.cell? ⟨gb103, 2, none⟩ = some (.string a0_2) := (blk_cell BK103.out 2).trans rfl
          have hcz17_3 : wr.cell? ⟨gb103, 3, none⟩ = some (.string a0_3) := (blk_cell BK103.out 3).trans rfl
          have hcz17_4 : wr.cell? ⟨gb103, 4, none⟩ = some (.string a0_4) := (blk_cell BK103.out 4).trans rfl
          have hcz17_5 : wr.cell? ⟨gb103, 5, none⟩ = some (.string a0_5) := (blk_cell BK103.out 5).trans rfl
          have hcz17_6 : wr.cell? ⟨gb103, 6, none⟩ = some (.string a0_6) := (blk_cell BK103.out 6).trans rfl
          have hcz17_7 : wr.cell? ⟨gb103, 7, none⟩ = some (.bool a0_7) := (blk_cell BK103.out 7).trans rfl
          have hcz17_8 : wr.cell? ⟨gb103, 8, none⟩ = some (.bool a0_8) := (blk_cell BK103.out 8).trans rfl
          have hcz17_9 : wr.cell? ⟨gb103, 9, none⟩ = some (.slice A0_9 l0_9.length c0_9) := (blk_cell BK103.out 9).trans rfl
          have hfz17_0 := blk_frozen BK103.out 0
          have hfz17_1 := blk_frozen BK103.out 1
          have hfz17_2 := blk_frozen BK103.out 2
          have hfz17_3 := blk_frozen BK103.out 3
          have hfz17_4 := blk_frozen BK103.out 4
          have hfz17_5 := blk_frozen BK103.out 5
          have hfz17_6 := blk_frozen BK103.out 6
          have hfz17_7 := blk_frozen BK103.out 7
          have hfz17_8 := blk_frozen BK103.out 8
          have hfz17_9 := blk_frozen BK103.out 9
          go_wp2_with (first | (go_at_call 43; (with_reducible refine (locale_Locale_size.calls a0_0 a0_1 a0_2 a0_3 a0_4 a0_5 a0_6 a0_7 a0_8 _ _ l0_9 x6_1 t104 _ ?side1 ?side2 A4.out).mono ?_); (case side1 => repeat (first | exact (Kd.C_below HR0_9.out HB.out) | (with_reducible refine Kd.C_alloc ?_ _) | (with_reducible refine Kd.C_drewN ?_ _) | (with_reducible refine Kd.C_drew ?_))); (case side2 => exact HC0_9.out); rintro e w18 ⟨rfl, hb⟩; have n0_ := Aside0.mk (blk_below (g := gb103) (o := .cells #[.string a0_0, .string a0_1, .string a0_2, .string a0_3, .string a0_4, .string a0_5, .string a0_6, .bool a0_7, .bool a0_8, .slice A0_9 l0_9.length c0_9] 25 (0, 0)) (by (with_reducible repeat (first | refine blk_drewN ?_ _ | refine blk_drew ?_ | refine blk_alloc ?_ _)); exact BK103.out) hb); have n1_ := Aside0.mk (below_step (by repeat (first | (with_reducible first | exact HB.out | apply below_alloc | apply pw_below_drewN | apply below_drew1 | refine below_set ?_ GE103.out) | exact HB.out)) hb); clear BK103; clear HB; have BK103 := n0_; have HB := n1_; clear n0_ n1_; (try clear hb); (try clear hb2); (try clear hk); (try clear hi)))
          repeat (go_quiet (first | (go_at_call 43; (with_reducible refine (locale_Locale_size.calls a0_0 a0_1 a0_2 a0_3 a0_4 a0_5 a0_6 a0_7 a0_8 _ _ l0_9 x6_1 t104 _ ?side1 ?side2 A4.out).mono ?_); (case side1 => repeat (first | exact (Kd.C_below HR0_9.out HB.out) | (with_reducible refine Kd.C_alloc ?_ _) | (with_reducible refine Kd.C_drewN ?_ _) | (with_reducible refine Kd.C_drew ?_))); (case side2 => exact HC0_9.out); rintro e w18 ⟨rfl, hb⟩; have n0_ := Aside0.mk (blk_below (g := gb103) (o := .cells #[.string a0_0, .string a0_1, .string a0_2, .string a0_3, .string a0_4, .string a0_5, .string a0_6, .bool a0_7, .bool a0_8, .slice A0_9 l0_9.length c0_9] 25 (0, 0)) (by (with_reducible repeat (first | refine blk_drewN ?_ _ | refine blk_drew ?_ | refine blk_alloc ?_ _)); exact BK103.out) hb); have n1_ := Aside0.mk (below_step (by repeat (first | (with_reducible first | exact HB.out | apply below_alloc | apply pw_below_drewN | apply below_drew1 | refine below_set ?_ GE103.out) | exact HB.out)) hb); clear BK103; clear HB; have BK103 := n0_; have HB := n1_; clear n0_ n1_; (try clear hb); (try clear hb2); (try clear hk); (try clear hi))); try go_wp2_with (first | (go_at_call 43; (with_reducible refine (locale_Locale_size.calls a0_0 a0_1 a0_2 a0_3 a0_4 a0_5 a0_6 a0_7 a0_8 _ _ l0_9 x6_1 t104 _ ?side1 ?side2 A4.out).mono ?_); (case side1 => repeat (first | exact (Kd.C_below HR0_9.out HB.out) | (with_reducible refine Kd.C_alloc ?_ _) | (with_reducible refine Kd.C_drewN ?_ _) | (with_reducible refine Kd.C_drew ?_))); (case side2 => exact HC0_9.out); rintro e w18 ⟨rfl, hb⟩; have n0_ := Aside0.mk (blk_below (g := gb103) (o := .cells #[.string a0_0, .string a0_1, .string a0_2, .string a0_3, .string a0_4, .string a0_5, .string a0_6, .bool a0_7, .bool a0_8, .slice A0_9 l0_9.length c0_9] 25 (0, 0)) (by (with_reducible repeat (first | refine blk_drewN ?_ _ | refine blk_drew ?_ | refine blk_alloc ?_ _)); exact BK103.out) hb); have n1_ := Aside0.mk (below_step (by repeat (first | (with_reducible first | exact HB.out | apply below_alloc | apply pw_below_drewN | apply below_drew1 | refine below_set ?_ GE103.out) | exact HB.out)) hb); clear BK103; clear HB; have BK103 := n0_; have HB := n1_; clear n0_ n1_; (try clear hb); (try clear hb2); (try clear hk); (try clear hi))))
          go_ret
          exact ⟨by first | rfl | (simp [errW_none, errW_some] <;> rfl) | (simp [*, errW_none, errW_some] <;> rfl), by repeat (first | (with_reducible first | exact HB.out | apply below_alloc | apply pw_below_drewN | apply below_drew1 | refine below_set ?_ GE103.out) | exact HB.out)⟩
        · rw [if_neg c16] at H
          exact absurd H (by simp)

-- taken with a contract of the session's own: function 40 (strings_ReplaceAll)

-- taken with a contract of the session's own: function 41 (strings_Trim)

/-! ### locale_Locale_Plain: function 12 -/
def locale_Locale_Plain.j0 : Nat → ByteArray → ByteArray → Bool → ByteArray → ByteArray → ByteArray → ByteArray → ByteArray → ByteArray → ByteArray → Bool → Bool → List Int → Option (ByteArray × Bool)
  | 0, _, _, _, _, _, _, _, _, _, _, _, _, _ => none
  | k + 1, x1, x6, x17, x106000, x106001, x106002, x106003, x106004, x106005, x106006, x106007, x106008, x106009 => if x17 = true then (some ((⟨#[]⟩ : ByteArray), false)) else (if x6.toList = x1.toList then (some (x6, true)) else ((locale_Locale_Grouped.f k x106000 x106001 x106002 x106003 x106004 x106005 x106006 x106007 x106008 x106009 x6).bind fun t108 => (if t108.toList = x1.toList then (some (x6, true)) else (some ((⟨#[]⟩ : ByteArray), false)))))
def locale_Locale_Plain.f (k : Nat) (a0_0 : ByteArray) (a0_1 : ByteArray) (a0_2 : ByteArray) (a0_3 : ByteArray) (a0_4 : ByteArray) (a0_5 : ByteArray) (a0_6 : ByteArray) (a0_7 : Bool) (a0_8 : Bool) (l0_9 : List Int) (a1 : ByteArray) : Option (ByteArray × Bool) := (strings_ReplaceAll.f a1 a0_2 (⟨#[]⟩ : ByteArray)).bind fun t106 => (if t106.toList = ([] : List UInt8) then (locale_Locale_Plain.j0 k a1 t106 true a0_0 a0_1 a0_2 a0_3 a0_4 a0_5 a0_6 a0_7 a0_8 l0_9) else ((strings_Trim.f t106 (⟨#[48, 49, 50, 51, 52, 53, 54, 55, 56, 57]⟩ : ByteArray)).bind fun t107 => (locale_Locale_Plain.j0 k a1 t106 (t107.toList != ([] : List UInt8)) a0_0 a0_1 a0_2 a0_3 a0_4 a0_5 a0_6 a0_7 a0_8 l0_9)))
theorem locale_Locale_Plain.mono_l : ∀ k, (∀ y0 y1 y2 y3 y4 y5 y6 y7 y8 y9 y10 y11 y12, LeO (locale_Locale_Plain.j0 k y0 y1 y2 y3 y4 y5 y6 y7 y8 y9 y10 y11 y12) (locale_Locale_Plain.j0 (k + 1) y0 y1 y2 y3 y4 y5 y6 y7 y8 y9 y10 y11 y12))
  | 0 => fun _ _ _ _ _ _ _ _ _ _ _ _ _ r h => by simp [locale_Locale_Plain.j0] at h
  | k + 1 => by
    have ih0 := locale_Locale_Plain.mono_l k
    · intro y0 y1 y2 y3 y4 y5 y6 y7 y8 y9 y10 y11 y12
      unfold locale_Locale_Plain.j0
      repeat' first
      | (with_reducible exact ih0 _ _ _ _ _ _ _ _ _ _ _ _ _)
      | (with_reducible exact locale_Locale_Grouped.mono _ _ _ _ _ _ _ _ _ _ _ _)
      | (with_reducible exact LeO.refl _)
      | (with_reducible exact LeO.none _)
      | (with_reducible refine LeO.ite ?_ ?_)
      | (with_reducible refine LeO.bind ?_ (fun _ => ?_))
      | exact ih0 _ _ _ _ _ _ _ _ _ _ _ _ _
      | exact locale_Locale_Grouped.mono _ _ _ _ _ _ _ _ _ _ _ _
      | exact LeO.none _
      | refine LeO.ite ?_ ?_
      | refine LeO.bind ?_ (fun _ => ?_)
theorem locale_Locale_Plain.mono : ∀ a0 a1 a2 a3 a4 a5 a6 a7 a8 a9 a10 k, LeO (locale_Locale_Plain.f k a0 a1 a2 a3 a4 a5 a6 a7 a8 a9 a10) (locale_Locale_Plain.f (k + 1) a0 a1 a2 a3 a4 a5 a6 a7 a8 a9 a10) := by
  intro a0 a1 a2 a3 a4 a5 a6 a7 a8 a9 a10 k
  have ih0 := locale_Locale_Plain.mono_l k
  unfold locale_Locale_Plain.f
  repeat' first
      | (with_reducible exact ih0 _ _ _ _ _ _ _ _ _ _ _ _ _)
      | (with_reducible exact locale_Locale_Grouped.mono _ _ _ _ _ _ _ _ _ _ _ _)
      | (with_reducible exact LeO.refl _)
      | (with_reducible exact LeO.none _)
      | (with_reducible refine LeO.ite ?_ ?_)
      | (with_reducible refine LeO.bind ?_ (fun _ => ?_))
      | exact ih0 _ _ _ _ _ _ _ _ _ _ _ _ _
      | exact locale_Locale_Grouped.mono _ _ _ _ _ _ _ _ _ _ _ _
      | exact LeO.none _
      | refine LeO.ite ?_ ?_
      | refine LeO.bind ?_ (fun _ => ?_)
set_option maxHeartbeats 8000000 in
set_option maxRecDepth 100000 in
theorem locale_Locale_Plain.calls (k : Nat) (a0_0 : ByteArray) (a0_1 : ByteArray) (a0_2 : ByteArray) (a0_3 : ByteArray) (a0_4 : ByteArray) (a0_5 : ByteArray) (a0_6 : ByteArray) (a0_7 : Bool) (a0_8 : Bool) (A0_9 : Option Addr) (c0_9 : Nat) (l0_9 : List Int) (a1 : ByteArray) (r1 : ByteArray) (r2 : Bool) (w : World) (hGL : GL w) (hr0_9 : Kd.C (Kd.int .i64) w A0_9 l0_9.length l0_9) (hc0_9 : l0_9.length ≤ c0_9) (h : locale_Locale_Plain.f k a0_0 a0_1 a0_2 a0_3 a0_4 a0_5 a0_6 a0_7 a0_8 l0_9 a1 = some (r1, r2)) :
    Calls Tryd.prog 12 #[.agg #[.string a0_0, .string a0_1, .string a0_2, .string a0_3, .string a0_4, .string a0_5, .string a0_6, .bool a0_7, .bool a0_8, .slice A0_9 l0_9.length c0_9], .string a1] w fun e w' => e = .returned (.tuple #[.string r1, .bool r2]) ∧ Below w.heap.size w w' := by
  have hu25 := Tryd.underlying25
  have HGL := Aside0.mk hGL
  clear hGL
  have HR0_9 := Aside0.mk hr0_9
  have HC0_9 := Aside0.mk hc0_9
  clear hr0_9 hc0_9
  have HB := Aside0.mk (Below.refl w.heap.size w)
  have H : ((strings_ReplaceAll.f a1 a0_2 (⟨#[]⟩ : ByteArray)).bind fun t106 => (if t106.toList = ([] : List UInt8) then (locale_Locale_Plain.j0 k a1 t106 true a0_0 a0_1 a0_2 a0_3 a0_4 a0_5 a0_6 a0_7 a0_8 l0_9) else ((strings_Trim.f t106 (⟨#[48, 49, 50, 51, 52, 53, 54, 55, 56, 57]⟩ : ByteArray)).bind fun t107 => (locale_Locale_Plain.j0 k a1 t106 (t107.toList != ([] : List UInt8)) a0_0 a0_1 a0_2 a0_3 a0_4 a0_5 a0_6 a0_7 a0_8 l0_9)))) = some (r1, r2) := h
  clear h
  replace H := Option.bind_eq_some_iff.mp H
  obtain ⟨t106, A30, H⟩ := H
  replace H : (if t106.toList = ([] : List UInt8) then (locale_Locale_Plain.j0 k a1 t106 true a0_0 a0_1 a0_2 a0_3 a0_4 a0_5 a0_6 a0_7 a0_8 l0_9) else ((strings_Trim.f t106 (⟨#[48, 49, 50, 51, 52, 53, 54, 55, 56, 57]⟩ : ByteArray)).bind fun t107 => (locale_Locale_Plain.j0 k a1 t106 (t107.toList != ([] : List UInt8)) a0_0 a0_1 a0_2 a0_3 a0_4 a0_5 a0_6 a0_7 a0_8 l0_9))) = some (r1, r2) := H
  have A3 := Aside0.mk A30
  clear A30
  have HC4 := Aside0.mk H
  clear H
  go_enter Tryd.func12, Tryd.ntmps12
  go_upto_region 2 with (first | ((with_reducible refine gate_dst (N := 2) rfl ?_); refine box_event ?hg (N := 2) ?hd (cs := #[.string a0_0, .string a0_1, .string a0_2, .string a0_3, .string a0_4, .string a0_5, .string a0_6, .bool a0_7, .bool a0_8, .slice A0_9 l0_9.length c0_9]) (t := 25) ?hr ?_; (case hd => rfl); (case hg => rfl); (case hr => first | (go_simp; done) | (go_simp; rfl)); intro gb105 hg w5 hbox hb; have n0_ := Aside0.mk (below_step (by repeat (first | (with_reducible first | exact HB.out | apply below_alloc | apply pw_below_drewN | apply below_drew1) | exact HB.out)) hb); have n1_ := Aside0.mk (hbox); have n2_ := Aside0.mk ((by rw [hg]; exact (below_size (by repeat (first | (with_reducible first | exact HB.out | apply below_alloc | apply pw_below_drewN | apply below_drew1) | exact HB.out))) : w.heap.size ≤ gb105)); have n3_ := Aside0.mk ((by rw [hg]; exact (below_size (by repeat (first | (with_reducible first | exact HB.out | apply below_alloc | apply pw_below_drewN | apply below_drew1) | exact HB.out))) : w.heap.size ≤ gb105)); clear HB; have HB := n0_; have BK105 := n1_; have GW105 := n2_; have GE105 := n3_; clear n0_ n1_ n2_ n3_; clear hb hbox hg; have hcz6_0 : w5.cell? ⟨gb105, 0, none⟩ = some (.string a0_0) := (blk_cell BK105.out 0).trans rfl; have hcz6_1 : w5.cell? ⟨gb105, 1, none⟩ = some (.string a0_1) := (blk_cell BK105.out 1).trans rfl; have hcz6_2 : w5.cell? ⟨gb105, 2, none⟩ = some (.string a0_2) := (blk_cell BK105.out 2).trans rfl; have hcz6_3 : w5.cell? ⟨gb105, 3, none⟩ = some (.string a0_3) := (blk_cell BK105.out 3).trans rfl; have hcz6_4 : w5.cell? ⟨gb105, 4, none⟩ = some (.string a0_4) := (blk_cell BK105.out 4).trans rfl; have hcz6_5 : w5.cell? ⟨gb105, 5, none⟩ = some (.string a0_5) := (blk_cell BK105.out 5).trans rfl; have hcz6_6 : w5.cell? ⟨gb105, 6, none⟩ = some (.string a0_6) := (blk_cell BK105.out 6).trans rfl; have hcz6_7 : w5.cell? ⟨gb105, 7, none⟩ = some (.bool a0_7) := (blk_cell BK105.out 7).trans rfl; have hcz6_8 : w5.cell? ⟨gb105, 8, none⟩ = some (.bool a0_8) := (blk_cell BK105.out 8).trans rfl; have hcz6_9 : w5.cell? ⟨gb105, 9, none⟩ = some (.slice A0_9 l0_9.length c0_9) := (blk_cell BK105.out 9).trans rfl; have hfz6_0 := blk_frozen BK105.out 0; have hfz6_1 := blk_frozen BK105.out 1; have hfz6_2 := blk_frozen BK105.out 2; have hfz6_3 := blk_frozen BK105.out 3; have hfz6_4 := blk_frozen BK105.out 4; have hfz6_5 := blk_frozen BK105.out 5; have hfz6_6 := blk_frozen BK105.out 6; have hfz6_7 := blk_frozen BK105.out 7; have hfz6_8 := blk_frozen BK105.out 8; have hfz6_9 := blk_frozen BK105.out 9) | ((with_reducible refine gate_callee (f := 40) rfl ?_); refine goesL_ (some 10) rfl rfl Tryd.func40 (by kernel_rfl) rfl #[.string a1, .string a0_2, .string (⟨#[]⟩ : ByteArray)] rfl (by (try simp only [List.map_toArray, List.map_cons, List.map_nil]); first | done | rfl | (simp only [List.length_drop, List.length_take]; rfl)) ?_; (with_reducible refine (strings_ReplaceAll.calls a1 a0_2 (⟨#[]⟩ : ByteArray) t106 _ ?side1 A3.out).mono ?_); (case side1 => exact GL.below HGL.out (by repeat (first | (with_reducible first | exact HB.out | apply below_alloc | apply pw_below_drewN | apply below_drew1 | refine below_set ?_ GE105.out) | exact HB.out))); rintro e w7 ⟨rfl, hb⟩; refine ⟨_, rfl, ?_⟩; have n0_ := Aside0.mk (blk_below (g := gb105) (o := .cells #[.string a0_0, .string a0_1, .string a0_2, .string a0_3, .string a0_4, .string a0_5, .string a0_6, .bool a0_7, .bool a0_8, .slice A0_9 l0_9.length c0_9] 25 (0, 0)) (by (with_reducible repeat (first | refine blk_drewN ?_ _ | refine blk_drew ?_ | refine blk_alloc ?_ _)); exact BK105.out) hb); have n1_ := Aside0.mk (below_step (by repeat (first | (with_reducible first | exact HB.out | apply below_alloc | apply pw_below_drewN | apply below_drew1 | refine below_set ?_ GE105.out) | exact HB.out)) hb); clear BK105; clear HB; have BK105 := n0_; have HB := n1_; clear n0_ n1_; (try clear hb); (try clear hb2); (try clear hk); (try clear hi)))
  (try simp only [Act.put, List.setIfInBounds_toArray, List.set_cons_zero, List.set_cons_succ])
  go_cut [17] (fun v17 wc => ∃ (kq : Nat) (x17_3 : Bool), v17 = .bool x17_3 ∧ Aside0 (locale_Locale_Plain.j0 kq a1 t106 x17_3 a0_0 a0_1 a0_2 a0_3 a0_4 a0_5 a0_6 a0_7 a0_8 l0_9 = some (r1, r2)) ∧ Aside0 (kq ≤ k) ∧ Aside0 (wc.heap[gb105]? = some (.cells #[.string a0_0, .string a0_1, .string a0_2, .string a0_3, .string a0_4, .string a0_5, .string a0_6, .bool a0_7, .bool a0_8, (.slice A0_9 l0_9.length c0_9)] 25 (0, 0))) ∧ Aside0 (Below w.heap.size w wc))
  case first =>
    have H := HC4.out
    clear HC4
    by_cases c8 : t106.toList = ([] : List UInt8)
    · rw [if_pos c8] at H
      have c8b0 : (t106.toList == ([] : List UInt8)) = true := beq_iff_eq.mpr c8
      (try have c8b8 : t106.toList.isEmpty = true := by simpa using c8)
      have c8b1 : (t106.toList != ([] : List UInt8)) = false := bne_eq_false_iff_eq.mpr c8
      clear c8
      (first | rw [c8b0] | rw [c8b8] | (simp only [i64_w, i32_w]; rw [c8b0]) | skip)
      have H' := Aside0.mk H
      clear H
      go_wp2
      go_meet
      case rel => exact ⟨_, (true), (by first | rfl | (simp; done) | (simp [*]; done) | (simp [bne]; done)), H', ⟨by first | omega | exact Nat.le_refl _⟩, ⟨by (with_reducible repeat (first | refine blk_drewN ?_ _ | refine blk_drew ?_ | refine blk_alloc ?_ _)); exact BK105.out⟩, ⟨by repeat (first | (with_reducible first | exact HB.out | apply below_alloc | apply pw_below_drewN | apply below_drew1 | refine below_set ?_ GE105.out) | exact HB.out)⟩⟩
    · rw [if_neg c8] at H
      have c8b0 : (t106.toList == ([] : List UInt8)) = false := beq_eq_false_iff_ne.mpr c8
      (try have c8b8 : t106.toList.isEmpty = false := by simpa using c8)
      have c8b1 : (t106.toList != ([] : List UInt8)) = true := bne_iff_ne.mpr c8
      (first | rw [c8b0] | rw [c8b8] | (simp only [i64_w, i32_w]; rw [c8b0]) | skip)
      replace H := Option.bind_eq_some_iff.mp H
      obtain ⟨t107, A90, H⟩ := H
      replace H : (locale_Locale_Plain.j0 k a1 t106 (t107.toList != ([] : List UInt8)) a0_0 a0_1 a0_2 a0_3 a0_4 a0_5 a0_6 a0_7 a0_8 l0_9) = some (r1, r2) := H
      have A9 := Aside0.mk A90
      clear A90
      have H' := Aside0.mk H
      clear H
      go_wp2_with (first | (go_at_call 41; (with_reducible refine (strings_Trim.calls t106 (⟨#[48, 49, 50, 51, 52, 53, 54, 55, 56, 57]⟩ : ByteArray) t107 _ A9.out).mono ?_); rintro e w10 ⟨rfl, hb⟩; have n0_ := Aside0.mk (blk_below (g := gb105) (o := .cells #[.string a0_0, .string a0_1, .string a0_2, .string a0_3, .string a0_4, .string a0_5, .string a0_6, .bool a0_7, .bool a0_8, .slice A0_9 l0_9.length c0_9] 25 (0, 0)) (by (with_reducible repeat (first | refine blk_drewN ?_ _ | refine blk_drew ?_ | refine blk_alloc ?_ _)); exact BK105.out) hb); have n1_ := Aside0.mk (below_step (by repeat (first | (with_reducible first | exact HB.out | apply below_alloc | apply pw_below_drewN | apply below_drew1 | refine below_set ?_ GE105.out) | exact HB.out)) hb); clear BK105; clear HB; have BK105 := n0_; have HB := n1_; clear n0_ n1_; (try clear hb); (try clear hb2); (try clear hk); (try clear hi)))
      go_meet
      case rel => exact ⟨_, ((t107.toList != ([] : List UInt8))), (by first | rfl | (simp; done) | (simp [*]; done) | (simp [bne]; done)), H', ⟨by first | omega | exact Nat.le_refl _⟩, ⟨by (with_reducible repeat (first | refine blk_drewN ?_ _ | refine blk_drew ?_ | refine blk_alloc ?_ _)); exact BK105.out⟩, ⟨by repeat (first | (with_reducible first | exact HB.out | apply below_alloc | apply pw_below_drewN | apply below_drew1 | refine below_set ?_ GE105.out) | exact HB.out)⟩⟩
  case rest =>
    clear HC4
    try clear c1
    try clear p2
    try clear c4
    try clear c8
    try clear c8b0
    try clear c8b1
    try clear hcz6_0
    try clear hcz6_1
    try clear hcz6_2
    try clear hcz6_3
    try clear hcz6_4
    try clear hcz6_5
    try clear hcz6_6
    try clear hcz6_7
    try clear hcz6_8
    try clear hcz6_9
    try clear hfz6_0
    try clear hfz6_1
    try clear hfz6_2
    try clear hfz6_3
    try clear hfz6_4
    try clear hfz6_5
    try clear hfz6_6
    try clear hfz6_7
    try clear hfz6_8
    try clear hfz6_9
    obtain ⟨kq, x17_3, rfl, HA, HJ3, BK105, HB⟩ := hcut
    cases kq with
    | zero => exact absurd HA.out (by simp [locale_Locale_Plain.j0])
    | succ kj3 =>
      have H := HA.out
      clear HA
      simp only [locale_Locale_Plain.j0] at H
      by_cases c11 : x17_3 = true
      · subst c11
        have H1 : (some ((⟨#[]⟩ : ByteArray), false)) = some (r1, r2) := by rw [if_pos rfl] at H; exact H
        clear H
        have H := H1
        clear H1
        simp only [Option.some.injEq, Prod.mk.injEq] at H
        obtain ⟨rfl, rfl⟩ := H
        go_wp2
        go_ret2
        exact ⟨by first | rfl | (simp [errW_none, errW_some] <;> rfl) | (simp [*, errW_none, errW_some] <;> rfl), by repeat (first | (with_reducible first | exact HB.out | apply below_alloc | apply pw_below_drewN | apply below_drew1 | refine below_set ?_ GE105.out) | exact HB.out)⟩
      · replace c11 := Bool.eq_false_iff.mpr c11
        subst c11
        have H1 : (if t106.toList = a1.toList then (some (t106, true)) else ((locale_Locale_Grouped.f kj3 a0_0 a0_1 a0_2 a0_3 a0_4 a0_5 a0_6 a0_7 a0_8 l0_9 t106).bind fun t108 => (if t108.toList = a1.toList then (some (t106, true)) else (some ((⟨#[]⟩ : ByteArray), false))))) = some (r1, r2) := by rw [if_neg (show ¬ (false = true) by decide)] at H; exact H
        clear H
        have H := H1
        clear H1
        by_cases c12 : t106.toList = a1.toList
        · rw [if_pos c12] at H
          have c12b0 : (t106.toList == a1.toList) = true := beq_iff_eq.mpr c12
          have c12b1 : (t106.toList != a1.toList) = false := bne_eq_false_iff_eq.mpr c12
          clear c12
          simp only [Option.some.injEq, Prod.mk.injEq] at H
          obtain ⟨rfl, rfl⟩ := H
          go_wp2
          go_ret2
          exact ⟨by first | rfl | (simp [errW_none, errW_some] <;> rfl) | (simp [*, errW_none, errW_some] <;> rfl), by repeat (first | (with_reducible first | exact HB.out | apply below_alloc | apply pw_below_drewN | apply below_drew1 | refine below_set ?_ GE105.out) | exact HB.out)⟩
        · rw [if_neg c12] at H
          have c12b0 : (t106.toList == a1.toList) = false := beq_eq_false_iff_ne.mpr c12
          have c12b1 : (t106.toList != a1.toList) = true := bne_iff_ne.mpr c12
          replace H := Option.bind_eq_some_iff.mp H
          obtain ⟨t108, A130, H⟩ := H
          replace H : (if t108.toList = a1.toList then (some (t106, true)) else (some ((⟨#[]⟩ : ByteArray), false))) = some (r1, r2) := H
          have A13 := Aside0.mk A130
          clear A130
          by_cases c14 : t108.toList = a1.toList
          · rw [if_pos c14] at H
            have c14b0 : (t108.toList == a1.toList) = true := beq_iff_eq.mpr c14
            have c14b1 : (t108.toList != a1.toList) = false := bne_eq_false_iff_eq.mpr c14
            clear c14
            simp only [Option.some.injEq, Prod.mk.injEq] at H
            obtain ⟨rfl, rfl⟩ := H
            have hcz15_0 : wc.cell? ⟨gb105, 0, none⟩ = some (.string a0_0) := (blk_cell BK105.out 0).trans rfl
            have hcz15_1 : wc.cell? ⟨gb105, 1, none⟩ = some (.string a0_1) := (blk_cell BK105.out 1).trans rfl
            have hcz15_2 : wc.cell? ⟨gb105, 2, none⟩ = some (.string a0_2) := (blk_cell BK105.out 2).trans rfl
            have hcz15_3 : wc.cell? ⟨gb105, 3, none⟩ = some (.string a0_3) := (blk_cell BK105.out 3).trans rfl
            have hcz15_4 : wc.cell? ⟨gb105, 4, none⟩ = some (.string a0_4) := (blk_cell BK105.out 4).trans rfl
            have hcz15_5 : wc.cell? ⟨gb105, 5, none⟩ = some (.string a0_5) := (blk_cell BK105.out 5).trans rfl
            have hcz15_6 : wc.cell? ⟨gb105, 6, none⟩ = some (.string a0_6) := (blk_cell BK105.out 6).trans rfl
            have hcz15_7 : wc.cell? ⟨gb105, 7, none⟩ = some (.bool a0_7) := (blk_cell BK105.out 7).trans rfl
            have hcz15_8 : wc.cell? ⟨gb105, 8, none⟩ = some (.bool a0_8) := (blk_cell BK105.out 8).trans rfl
            have hcz15_9 : wc.cell? ⟨gb105, 9, none⟩ = some (.slice A0_9 l0_9.length c0_9) := (blk_cell BK105.out 9).trans rfl
            have hfz15_0 := blk_frozen BK105.out 0
            have hfz15_1 := blk_frozen BK105.out 1
            have hfz15_2 := blk_frozen BK105.out 2
            have hfz15_3 := blk_frozen BK105.out 3
            have hfz15_4 := blk_frozen BK105.out 4
            have hfz15_5 := blk_frozen BK105.out 5
            have hfz15_6 := blk_frozen BK105.out 6
            have hfz15_7 := blk_frozen BK105.out 7
            have hfz15_8 := blk_frozen BK105.out 8
            have hfz15_9 := blk_frozen BK105.out 9
            go_wp2_with (first | (go_at_call 15; (with_reducible refine (locale_Locale_Grouped.calls kj3 a0_0 a0_1 a0_2 a0_3 a0_4 a0_5 a0_6 a0_7 a0_8 _ _ l0_9 t106 t108 _ ?side1 ?side2 A13.out).mono ?_); (case side1 => repeat (first | exact (Kd.C_below HR0_9.out HB.out) | (with_reducible refine Kd.C_alloc ?_ _) | (with_reducible refine Kd.C_drewN ?_ _) | (with_reducible refine Kd.C_drew ?_))); (case side2 => exact HC0_9.out); rintro e w16 ⟨rfl, hb⟩; have n0_ := Aside0.mk (blk_below (g := gb105) (o := .cells #[.string a0_0, .string a0_1, .string a0_2, .string a0_3, .string a0_4, .string a0_5, .string a0_6, .bool a0_7, .bool a0_8, .slice A0_9 l0_9.length c0_9] 25 (0, 0)) (by (with_reducible repeat (first | refine blk_drewN ?_ _ | refine blk_drew ?_ | refine blk_alloc ?_ _)); exact BK105.out) hb); have n1_ := Aside0.mk (below_step (by repeat (first | (with_reducible first | exact HB.out | apply below_alloc | apply pw_below_drewN | apply below_drew1 | refine below_set ?_ GE105.out) | exact HB.out)) hb); clear BK105; clear HB; have BK105 := n0_; have HB := n1_; clear n0_ n1_; (try clear hb); (try clear hb2); (try clear hk); (try clear hi)))
            go_ret2
            exact ⟨by first | rfl | (simp [errW_none, errW_some] <;> rfl) | (simp [*, errW_none, errW_some] <;> rfl), by repeat (first | (with_reducible first | exact HB.out | apply below_alloc | apply pw_below_drewN | apply below_drew1 | refine below_set ?_ GE105.out) | exact HB.out)⟩
          · rw [if_neg c14] at H
            have c14b0 : (t108.toList == a1.toList) = false := beq_eq_false_iff_ne.mpr c14
            have c14b1 : (t108.toList != a1.toList) = true := bne_iff_ne.mpr c14
            simp only [Option.some.injEq, Prod.mk.injEq] at H
            obtain ⟨rfl, rfl⟩ := H
            have hcz17_0 : wc.cell? ⟨gb105, 0, none⟩ = some (.string a0_0) := (blk_cell BK105.out 0).trans rfl
            have hcz17_1 : wc.cell? ⟨gb105, 1, none⟩ = some (.string a0_1) := (blk_cell BK105.out 1).trans rfl
            have hcz17_2 : wc.cell? ⟨gb105, 2, none⟩ = some (.string a0_2) := (blk_cell BK105.out 2).trans rfl
            have hcz17_3 : wc.cell? ⟨gb105, 3, none⟩ = some (.string a0_3) := (blk_cell BK105.out 3).trans rfl
            have hcz17_4 : wc.cell? ⟨gb105, 4, none⟩ = some (.string a0_4) := (blk_cell BK105.out 4).trans rfl
            have hcz17_5 : wc.cell? ⟨gb105, 5, none⟩ = some (.string a0_5) := (blk_cell BK105.out 5).trans rfl
            have hcz17_6 : wc.cell? ⟨gb105, 6, none⟩ = some (.string a0_6) := (blk_cell BK105.out 6).trans rfl
            have hcz17_7 : wc.cell? ⟨gb105, 7, none⟩ = some (.bool a0_7) := (blk_cell BK105.out 7).trans rfl
            have hcz17_8 : wc.cell? ⟨gb105, 8, none⟩ = some (.bool a0_8) := (blk_cell BK105.out 8).trans rfl
            have hcz17_9 : wc.cell? ⟨gb105, 9, none⟩ = some (.slice A0_9 l0_9.length c0_9) := (blk_cell BK105.out 9).trans rfl
            have hfz17_0 := blk_frozen BK105.out 0
            have hfz17_1 := blk_frozen BK105.out 1
            have hfz17_2 := blk_frozen BK105.out 2
            have hfz17_3 := blk_frozen BK105.out 3
            have hfz17_4 := blk_frozen BK105.out 4
            have hfz17_5 := blk_frozen BK105.out 5
            have hfz17_6 := blk_frozen BK105.out 6
            have hfz17_7 := blk_frozen BK105.out 7
            have hfz17_8 := blk_frozen BK105.out 8
            have hfz17_9 := blk_frozen BK105.out 9
            go_wp2_with (first | (go_at_call 15; (with_reducible refine (locale_Locale_Grouped.calls kj3 a0_0 a0_1 a0_2 a0_3 a0_4 a0_5 a0_6 a0_7 a0_8 _ _ l0_9 t106 t108 _ ?side1 ?side2 A13.out).mono ?_); (case side1 => repeat (first | exact (Kd.C_below HR0_9.out HB.out) | (with_reducible refine Kd.C_alloc ?_ _) | (with_reducible refine Kd.C_drewN ?_ _) | (with_reducible refine Kd.C_drew ?_))); (case side2 => exact HC0_9.out); rintro e w18 ⟨rfl, hb⟩; have n0_ := Aside0.mk (blk_below (g := gb105) (o := .cells #[.string a0_0, .string a0_1, .string a0_2, .string a0_3, .string a0_4, .string a0_5, .string a0_6, .bool a0_7, .bool a0_8, .slice A0_9 l0_9.length c0_9] 25 (0, 0)) (by (with_reducible repeat (first | refine blk_drewN ?_ _ | refine blk_drew ?_ | refine blk_alloc ?_ _)); exact BK105.out) hb); have n1_ := Aside0.mk (below_step (by repeat (first | (with_reducible first | exact HB.out | apply below_alloc | apply pw_below_drewN | apply below_drew1 | refine below_set ?_ GE105.out) | exact HB.out)) hb); clear BK105; clear HB; have BK105 := n0_; have HB := n1_; clear n0_ n1_; (try clear hb); (try clear hb2); (try clear hk); (try clear hi)))
            go_ret2
            exact ⟨by first | rfl | (simp [errW_none, errW_some] <;> rfl) | (simp [*, errW_none, errW_some] <;> rfl), by repeat (first | (with_reducible first | exact HB.out | apply below_alloc | apply pw_below_drewN | apply below_drew1 | refine below_set ?_ GE105.out) | exact HB.out)⟩

/-! ### tabardref11_Locale_Grouped: function 16 -/
def tabardref11_Locale_Grouped.l0 : Nat → ByteArray → ByteArray → Int → ByteArray → ByteArray → ByteArray → ByteArray → ByteArray → ByteArray → ByteArray → Bool → Bool → Int → Option (ByteArray)
  | 0, _, _, _, _, _, _, _, _, _, _, _, _, _ => none
  | k + 1, x1, x5, x6, x110000, x110001, x110002, x110003, x110004, x110005, x110006, x110007, x110008, x110009 => if x6 < (x1.size : Int) then (if x6 > 0 then (if (wrap64 ((x1.size : Int) - x6)) ≥ 3 then (if x110009 = 0 then (none) else (if (Int.tmod (wrap64 ((wrap64 ((x1.size : Int) - x6)) - 3)) x110009) = 0 then (if x5.size + x110002.size ≤ 9223372036854775807 then (if 0 ≤ x6 then (if x6 ≤ (wrap64 (x6 + 1)) then (if (wrap64 (x6 + 1)) ≤ (x1.size : Int) then (if (x5 ++ x110002).size + (x1.extract (x6 : Int).toNat ((wrap64 (x6 + 1)) : Int).toNat).size ≤ 9223372036854775807 then (tabardref11_Locale_Grouped.l0 k x1 ((x5 ++ x110002) ++ (x1.extract (x6 : Int).toNat ((wrap64 (x6 + 1)) : Int).toNat)) (wrap64 (x6 + 1)) x110000 x110001 x110002 x110003 x110004 x110005 x110006 x110007 x110008 x110009) else (none)) else (none)) else (none)) else (none)) else (none)) else (if 0 ≤ x6 then (if x6 ≤ (wrap64 (x6 + 1)) then (if (wrap64 (x6 + 1)) ≤ (x1.size : Int) then (if x5.size + (x1.extract (x6 : Int).toNat ((wrap64 (x6 + 1)) : Int).toNat).size ≤ 9223372036854775807 then (tabardref11_Locale_Grouped.l0 k x1 (x5 ++ (x1.extract (x6 : Int).toNat ((wrap64 (x6 + 1)) : Int).toNat)) (wrap64 (x6 + 1)) x110000 x110001 x110002 x110003 x110004 x110005 x110006 x110007 x110008 x110009) else (none)) else (none)) else (none)) else (none)))) else (if 0 ≤ x6 then (if x6 ≤ (wrap64 (x6 + 1)) then (if (wrap64 (x6 + 1)) ≤ (x1.size : Int) then (if x5.size + (x1.extract (x6 : Int).toNat ((wrap64 (x6 + 1)) : Int).toNat).size ≤ 9223372036854775807 then (tabardref11_Locale_Grouped.l0 k x1 (x5 ++ (x1.extract (x6 : Int).toNat ((wrap64 (x6 + 1)) : Int).toNat)) (wrap64 (x6 + 1)) x110000 x110001 x110002 x110003 x110004 x110005 x110006 x110007 x110008 x110009) else (none)) else (none)) else (none)) else (none))) else (if 0 ≤ x6 then (if x6 ≤ (wrap64 (x6 + 1)) then (if (wrap64 (x6 + 1)) ≤ (x1.size : Int) then (if x5.size + (x1.extract (x6 : Int).toNat ((wrap64 (x6 + 1)) : Int).toNat).size ≤ 9223372036854775807 then (tabardref11_Locale_Grouped.l0 k x1 (x5 ++ (x1.extract (x6 : Int).toNat ((wrap64 (x6 + 1)) : Int).toNat)) (wrap64 (x6 + 1)) x110000 x110001 x110002 x110003 x110004 x110005 x110006 x110007 x110008 x110009) else (none)) else (none)) else (none)) else (none))) else (some x5)
def tabardref11_Locale_Grouped.f (k : Nat) (a0_0 : ByteArray) (a0_1 : ByteArray) (a0_2 : ByteArray) (a0_3 : ByteArray) (a0_4 : ByteArray) (a0_5 : ByteArray) (a0_6 : ByteArray) (a0_7 : Bool) (a0_8 : Bool) (a0_9 : Int) (a1 : ByteArray) : Option (ByteArray) := tabardref11_Locale_Grouped.l0 k a1 (⟨#[]⟩ : ByteArray) 0 a0_0 a0_1 a0_2 a0_3 a0_4 a0_5 a0_6 a0_7 a0_8 a0_9
theorem tabardref11_Locale_Grouped.mono_l : ∀ k, (∀ y0 y1 y2 y3 y4 y5 y6 y7 y8 y9 y10 y11 y12, LeO (tabardref11_Locale_Grouped.l0 k y0 y1 y2 y3 y4 y5 y6 y7 y8 y9 y10 y11 y12) (tabardref11_Locale_Grouped.l0 (k + 1) y0 y1 y2 y3 y4 y5 y6 y7 y8 y9 y10 y11 y12))
  | 0 => fun _ _ _ _ _ _ _ _ _ _ _ _ _ r h => by simp [tabardref11_Locale_Grouped.l0] at h
  | k + 1 => by
    have ih0 := tabardref11_Locale_Grouped.mono_l k
    · intro y0 y1 y2 y3 y4 y5 y6 y7 y8 y9 y10 y11 y12
      unfold tabardref11_Locale_Grouped.l0
      repeat' first
      | (with_reducible exact ih0 _ _ _ _ _ _ _ _ _ _ _ _ _)
      | (with_reducible exact LeO.refl _)
      | (with_reducible exact LeO.none _)
      | (with_reducible refine LeO.ite ?_ ?_)
      | (with_reducible refine LeO.bind ?_ (fun _ => ?_))
      | exact ih0 _ _ _ _ _ _ _ _ _ _ _ _ _
      | exact LeO.none _
      | refine LeO.ite ?_ ?_
      | refine LeO.bind ?_ (fun _ => ?_)
theorem tabardref11_Locale_Grouped.mono : ∀ a0 a1 a2 a3 a4 a5 a6 a7 a8 a9 a10 k, LeO (tabardref11_Locale_Grouped.f k a0 a1 a2 a3 a4 a5 a6 a7 a8 a9 a10) (tabardref11_Locale_Grouped.f (k + 1) a0 a1 a2 a3 a4 a5 a6 a7 a8 a9 a10) := by
  intro a0 a1 a2 a3 a4 a5 a6 a7 a8 a9 a10 k
  have ih0 := tabardref11_Locale_Grouped.mono_l k
  unfold tabardref11_Locale_Grouped.f
  repeat' first
      | (with_reducible exact ih0 _ _ _ _ _ _ _ _ _ _ _ _ _)
      | (with_reducible exact LeO.refl _)
      | (with_reducible exact LeO.none _)
      | (with_reducible refine LeO.ite ?_ ?_)
      | (with_reducible refine LeO.bind ?_ (fun _ => ?_))
      | exact ih0 _ _ _ _ _ _ _ _ _ _ _ _ _
      | exact LeO.none _
      | refine LeO.ite ?_ ?_
      | refine LeO.bind ?_ (fun _ => ?_)
set_option maxHeartbeats 8000000 in
set_option maxRecDepth 100000 in
theorem tabardref11_Locale_Grouped.calls (k : Nat) (a0_0 : ByteArray) (a0_1 : ByteArray) (a0_2 : ByteArray) (a0_3 : ByteArray) (a0_4 : ByteArray) (a0_5 : ByteArray) (a0_6 : ByteArray) (a0_7 : Bool) (a0_8 : Bool) (a0_9 : Int) (a1 : ByteArray) (r : ByteArray) (w : World) (h : tabardref11_Locale_Grouped.f k a0_0 a0_1 a0_2 a0_3 a0_4 a0_5 a0_6 a0_7 a0_8 a0_9 a1 = some r) :
    Calls Tryd.prog 16 #[.agg #[.string a0_0, .string a0_1, .string a0_2, .string a0_3, .string a0_4, .string a0_5, .string a0_6, .bool a0_7, .bool a0_8, .int .i64 a0_9], .string a1] w fun e w' => e = .returned (.string r) ∧ Below w.heap.size w w' := by
  have hu27 := Tryd.underlying27
  have HB := Aside0.mk (Below.refl w.heap.size w)
  have H : (tabardref11_Locale_Grouped.l0 k a1 (⟨#[]⟩ : ByteArray) 0 a0_0 a0_1 a0_2 a0_3 a0_4 a0_5 a0_6 a0_7 a0_8 a0_9) = some r := h
  clear h
  have H' := Aside0.mk H
  clear H
  go_enter Tryd.func16, Tryd.ntmps16
  go_wp2_with (first | ((with_reducible refine gate_dst (N := 2) rfl ?_); refine box_event ?hg (N := 2) ?hd (cs := #[.string a0_0, .string a0_1, .string a0_2, .string a0_3, .string a0_4, .string a0_5, .string a0_6, .bool a0_7, .bool a0_8, .int .i64 a0_9]) (t := 27) ?hr ?_; (case hd => rfl); (case hg => rfl); (case hr => first | (go_simp; done) | (go_simp; rfl)); intro gb109 hg w3 hbox hb; have n0_ := Aside0.mk (below_step (by repeat (first | (with_reducible first | exact HB.out | apply below_alloc | apply pw_below_drewN | apply below_drew1) | exact HB.out)) hb); have n1_ := Aside0.mk (hbox); have n2_ := Aside0.mk ((by rw [hg]; exact (below_size (by repeat (first | (with_reducible first | exact HB.out | apply below_alloc | apply pw_below_drewN | apply below_drew1) | exact HB.out))) : w.heap.size ≤ gb109)); have n3_ := Aside0.mk ((by rw [hg]; exact (below_size (by repeat (first | (with_reducible first | exact HB.out | apply below_alloc | apply pw_below_drewN | apply below_drew1) | exact HB.out))) : w.heap.size ≤ gb109)); clear HB; have HB := n0_; have BK109 := n1_; have GW109 := n2_; have GE109 := n3_; clear n0_ n1_ n2_ n3_; clear hb hbox hg))
  go_loopg [5, 6] k (fun kq v5 v6 w' => ∃ (x5_1 : ByteArray) (x6_1 : Int), v5 = .string x5_1 ∧ v6 = .int .i64 x6_1 ∧ Aside0 (tabardref11_Locale_Grouped.l0 kq a1 x5_1 x6_1 a0_0 a0_1 a0_2 a0_3 a0_4 a0_5 a0_6 a0_7 a0_8 a0_9 = some r) ∧ Aside0 (kq ≤ k) ∧ Aside0 (w'.heap[gb109]? = some (.cells #[.string a0_0, .string a0_1, .string a0_2, .string a0_3, .string a0_4, .string a0_5, .string a0_6, .bool a0_7, .bool a0_8, .int .i64 a0_9] 27 (0, 0))) ∧ Aside0 (Below w.heap.size w w'))
  case atStart => exact ⟨((⟨#[]⟩ : ByteArray)), (0), (by first | rfl | (simp; done) | (simp [*]; done) | (simp [bne]; done)), (by first | rfl | (simp; done) | (simp [*]; done) | (simp [bne]; done)), H', ⟨Nat.le_refl _⟩, ⟨by (with_reducible repeat (first | refine blk_drewN ?_ _ | refine blk_drew ?_ | refine blk_alloc ?_ _)); exact BK109.out⟩, ⟨by repeat (first | (with_reducible first | exact HB.out | apply below_alloc | apply pw_below_drewN | apply below_drew1 | refine below_set ?_ GE109.out) | exact HB.out)⟩⟩
  case round =>
    clear H'
    try clear c1
    try clear p2
    obtain ⟨x5_1, x6_1, rfl, rfl, HA, HK1, BK109, HB⟩ := hrel
    cases gk with
    | zero => exact absurd HA.out (by simp [tabardref11_Locale_Grouped.l0])
    | succ k1 =>
      have H := HA.out
      clear HA
      simp only [tabardref11_Locale_Grouped.l0] at H
      by_cases c4 : x6_1 < (a1.size : Int)
      · rw [if_pos c4] at H
        have c4b0 : decide (x6_1 < (a1.size : Int)) = true := decide_eq_true c4
        clear c4
        by_cases c5 : x6_1 > 0
        · rw [if_pos c5] at H
          have c5b0 : decide (0 < x6_1) = true := decide_eq_true c5
          clear c5
          by_cases c6 : (wrap64 ((a1.size : Int) - x6_1)) ≥ 3
          · rw [if_pos c6] at H
            have c6b0 : decide (3 ≤ (wrap64 ((a1.size : Int) - x6_1))) = true := decide_eq_true c6
            clear c6
            by_cases c7 : a0_9 = 0
            · rw [if_pos c7] at H
              exact absurd H (by simp)
            · rw [if_neg c7] at H
              have c7b0 : (a0_9 == 0) = false := beq_eq_false_iff_ne.mpr c7
              have c7b1 : (a0_9 != 0) = true := bne_iff_ne.mpr c7
              by_cases c8 : (Int.tmod (wrap64 ((wrap64 ((a1.size : Int) - x6_1)) - 3)) a0_9) = 0
              · rw [if_pos c8] at H
                have c8b0 : ((Int.tmod (wrap64 ((wrap64 ((a1.size : Int) - x6_1)) - 3)) a0_9) == 0) = true := beq_iff_eq.mpr c8
                have c8b1 : ((Int.tmod (wrap64 ((wrap64 ((a1.size : Int) - x6_1)) - 3)) a0_9) != 0) = false := bne_eq_false_iff_eq.mpr c8
                clear c8
                by_cases c9 : x5_1.size + a0_2.size ≤ 9223372036854775807
                · rw [if_pos c9] at H
                  have c9b0 := eq_true c9
                  have c9b1 : decide (x5_1.size + a0_2.size ≤ 9223372036854775807) = true := decide_eq_true c9
                  try have c9b2 : (9223372036854775807 < x5_1.size + a0_2.size) = False := eq_false (Nat.not_lt.2 c9)
                  by_cases c10 : 0 ≤ x6_1
                  · rw [if_pos c10] at H
                    have c10b0 := eq_true c10
                    have c10b1 : decide (0 ≤ x6_1) = true := decide_eq_true c10
                    clear c10
                    by_cases c11 : x6_1 ≤ (wrap64 (x6_1 + 1))
                    · rw [if_pos c11] at H
                      have c11b0 := eq_true c11
                      have c11b1 : decide (x6_1 ≤ (wrap64 (x6_1 + 1))) = true := decide_eq_true c11
                      by_cases c12 : (wrap64 (x6_1 + 1)) ≤ (a1.size : Int)
                      · rw [if_pos c12] at H
                        have c12b0 := eq_true c12
                        have c12b1 : decide ((wrap64 (x6_1 + 1)) ≤ (a1.size : Int)) = true := decide_eq_true c12
                        by_cases c13 : (x5_1 ++ a0_2).size + (a1.extract (x6_1 : Int).toNat ((wrap64 (x6_1 + 1)) : Int).toNat).size ≤ 9223372036854775807
                        · rw [if_pos c13] at H
                          have c13b0 := eq_true c13
                          have c13b1 : decide ((x5_1 ++ a0_2).size + (a1.extract (x6_1 : Int).toNat ((wrap64 (x6_1 + 1)) : Int).toNat).size ≤ 9223372036854775807) = true := decide_eq_true c13
                          try have c13b2 : (9223372036854775807 < (x5_1 ++ a0_2).size + (a1.extract (x6_1 : Int).toNat ((wrap64 (x6_1 + 1)) : Int).toNat).size) = False := eq_false (Nat.not_lt.2 c13)
                          have H' := Aside0.mk H
                          clear H
                          have hcz14_0 : wr.cell? ⟨gb109, 0, none⟩ = some (.string a0_0) := (blk_cell BK109.out 0).trans rfl
                          have hcz14_1 : wr.cell? ⟨gb109, 1, none⟩ = some (.string a0_1) := (blk_cell BK109.out 1).trans rfl
                          have hcz14_2 : wr.cell? ⟨gb109, 2, none⟩ = some (.string a0_2) := (blk_cell BK109.out 2).trans rfl
                          have hcz14_3 : wr.cell? ⟨gb109, 3, none⟩ = some (.string a0_3) := (blk_cell BK109.out 3).trans rfl
                          have hcz14_4 : wr.cell? ⟨gb109, 4, none⟩ = some (.string a0_4) := (blk_cell BK109.out 4).trans rfl
                          have hcz14_5 : wr.cell? ⟨gb109, 5, none⟩ = some (.string a0_5) := (blk_cell BK109.out 5).trans rfl
                          have hcz14_6 : wr.cell? ⟨gb109, 6, none⟩ = some (.string a0_6) := (blk_cell BK109.out 6).trans rfl
                          have hcz14_7 : wr.cell? ⟨gb109, 7, none⟩ = some (.bool a0_7) := (blk_cell BK109.out 7).trans rfl
                          have hcz14_8 : wr.cell? ⟨gb109, 8, none⟩ = some (.bool a0_8) := (blk_cell BK109.out 8).trans rfl
                          have hcz14_9 : wr.cell? ⟨gb109, 9, none⟩ = some (.int .i64 a0_9) := (blk_cell BK109.out 9).trans rfl
                          have hfz14_0 := blk_frozen BK109.out 0
                          have hfz14_1 := blk_frozen BK109.out 1
                          have hfz14_2 := blk_frozen BK109.out 2
                          have hfz14_3 := blk_frozen BK109.out 3
                          have hfz14_4 := blk_frozen BK109.out 4
                          have hfz14_5 := blk_frozen BK109.out 5
                          have hfz14_6 := blk_frozen BK109.out 6
                          have hfz14_7 := blk_frozen BK109.out 7
                          have hfz14_8 := blk_frozen BK109.out 8
                          have hfz14_9 := blk_frozen BK109.out 9
                          go_wp2
                          go_roundg k1
                          case measure => have := HK1.out; omega
                          case rel => exact ⟨((x5_1 ++ a0_2) ++ (a1.extract (x6_1 : Int).toNat ((wrap64 (x6_1 + 1)) : Int).toNat)), (wrap64 (x6_1 + 1)), (by first | rfl | (simp; done) | (simp [*]; done) | (simp [bne]; done)), (by first | rfl | (simp; done) | (simp [*]; done) | (simp [bne]; done)), H', ⟨by have := HK1.out; omega⟩, ⟨by (with_reducible repeat (first | refine blk_drewN ?_ _ | refine blk_drew ?_ | refine blk_alloc ?_ _)); exact BK109.out⟩, ⟨by repeat (first | (with_reducible first | exact HB.out | apply below_alloc | apply pw_below_drewN | apply below_drew1 | refine below_set ?_ GE109.out) | exact HB.out)⟩⟩
                        · rw [if_neg c13] at H
                          exact absurd H (by simp)
                      · rw [if_neg c12] at H
                        exact absurd H (by simp)
                    · rw [if_neg c11] at H
                      exact absurd H (by simp)
                  · rw [if_neg c10] at H
                    exact absurd H (by simp)
                · rw [if_neg c9] at H
                  exact absurd H (by simp)
              · rw [if_neg c8] at H
                have c8b0 : ((Int.tmod (wrap64 ((wrap64 ((a1.size : Int) - x6_1)) - 3)) a0_9) == 0) = false := beq_eq_false_iff_ne.mpr c8
                have c8b1 : ((Int.tmod (wrap64 ((wrap64 ((a1.size : Int) - x6_1)) - 3)) a0_9) != 0) = true := bne_iff_ne.mpr c8
                by_cases c15 : 0 ≤ x6_1
                · rw [if_pos c15] at H
                  have c15b0 := eq_true c15
                  have c15b1 : decide (0 ≤ x6_1) = true := decide_eq_true c15
                  clear c15
                  by_cases c16 : x6_1 ≤ (wrap64 (x6_1 + 1))
                  · rw [if_pos c16] at H
                    have c16b0 := eq_true c16
                    have c16b1 : decide (x6_1 ≤ (wrap64 (x6_1 + 1))) = true := decide_eq_true c16
                    by_cases c17 : (wrap64 (x6_1 + 1)) ≤ (a1.size : Int)
                    · rw [if_pos c17] at H
                      have c17b0 := eq_true c17
                      have c17b1 : decide ((wrap64 (x6_1 + 1)) ≤ (a1.size : Int)) = true := decide_eq_true c17
                      by_cases c18 : x5_1.size + (a1.extract (x6_1 : Int).toNat ((wrap64 (x6_1 + 1)) : Int).toNat).size ≤ 9223372036854775807
                      · rw [if_pos c18] at H
                        have c18b0 := eq_true c18
                        have c18b1 : decide (x5_1.size + (a1.extract (x6_1 : Int).toNat ((wrap64 (x6_1 + 1)) : Int).toNat).size ≤ 9223372036854775807) = true := decide_eq_true c18
                        try have c18b2 : (9223372036854775807 < x5_1.size + (a1.extract (x6_1 : Int).toNat ((wrap64 (x6_1 + 1)) : Int).toNat).size) = False := eq_false (Nat.not_lt.2 c18)
                        have H' := Aside0.mk H
                        clear H
                        have hcz19_0 : wr.cell? ⟨gb109, 0, none⟩ = some (.string a0_0) := (blk_cell BK109.out 0).trans rfl
                        have hcz19_1 : wr.cell? ⟨gb109, 1, none⟩ = some (.string a0_1) := (blk_cell BK109.out 1).trans rfl
                        have hcz19_2 : wr.cell? ⟨gb109, 2, none⟩ = some (.string a0_2) := (blk_cell BK109.out 2).trans rfl
                        have hcz19_3 : wr.cell? ⟨gb109, 3, none⟩ = some (.string a0_3) := (blk_cell BK109.out 3).trans rfl
                        have hcz19_4 : wr.cell? ⟨gb109, 4, none⟩ = some (.string a0_4) := (blk_cell BK109.out 4).trans rfl
                        have hcz19_5 : wr.cell? ⟨gb109, 5, none⟩ = some (.string a0_5) := (blk_cell BK109.out 5).trans rfl
                        have hcz19_6 : wr.cell? ⟨gb109, 6, none⟩ = some (.string a0_6) := (blk_cell BK109.out 6).trans rfl
                        have hcz19_7 : wr.cell? ⟨gb109, 7, none⟩ = some (.bool a0_7) := (blk_cell BK109.out 7).trans rfl
                        have hcz19_8 : wr.cell? ⟨gb109, 8, none⟩ = some (.bool a0_8) := (blk_cell BK109.out 8).trans rfl
                        have hcz19_9 : wr.cell? ⟨gb109, 9, none⟩ = some (.int .i64 a0_9) := (blk_cell BK109.out 9).trans rfl
                        have hfz19_0 := blk_frozen BK109.out 0
                        have hfz19_1 := blk_frozen BK109.out 1
                        have hfz19_2 := blk_frozen BK109.out 2
                        have hfz19_3 := blk_frozen BK109.out 3
                        have hfz19_4 := blk_frozen BK109.out 4
                        have hfz19_5 := blk_frozen BK109.out 5
                        have hfz19_6 := blk_frozen BK109.out 6
                        have hfz19_7 := blk_frozen BK109.out 7
                        have hfz19_8 := blk_frozen BK109.out 8
                        have hfz19_9 := blk_frozen BK109.out 9
                        go_wp2
                        go_roundg k1
                        case measure => have := HK1.out; omega
                        case rel => exact ⟨(x5_1 ++ (a1.extract (x6_1 : Int).toNat ((wrap64 (x6_1 + 1)) : Int).toNat)), (wrap64 (x6_1 + 1)), (by first | rfl | (simp; done) | (simp [*]; done) | (simp [bne]; done)), (by first | rfl | (simp; done) | (simp [*]; done) | (simp [bne]; done)), H', ⟨by have := HK1.out; omega⟩, ⟨by (with_reducible repeat (first | refine blk_drewN ?_ _ | refine blk_drew ?_ | refine blk_alloc ?_ _)); exact BK109.out⟩, ⟨by repeat (first | (with_reducible first | exact HB.out | apply below_alloc | apply pw_below_drewN | apply below_drew1 | refine below_set ?_ GE109.out) | exact HB.out)⟩⟩
                      · rw [if_neg c18] at H
                        exact absurd H (by simp)
                    · rw [if_neg c17] at H
                      exact absurd H (by simp)
                  · rw [if_neg c16] at H
                    exact absurd H (by simp)
                · rw [if_neg c15] at H
                  exact absurd H (by simp)
          · rw [if_neg c6] at H
            have c6b0 : decide (3 ≤ (wrap64 ((a1.size : Int) - x6_1))) = false := decide_eq_false c6
            clear c6
            by_cases c20 : 0 ≤ x6_1
            · rw [if_pos c20] at H
              have c20b0 := eq_true c20
              have c20b1 : decide (0 ≤ x6_1) = true := decide_eq_true c20
              clear c20
              by_cases c21 : x6_1 ≤ (wrap64 (x6_1 + 1))
              · rw [if_pos c21] at H
                have c21b0 := eq_true c21
                have c21b1 : decide (x6_1 ≤ (wrap64 (x6_1 + 1))) = true := decide_eq_true c21
                by_cases c22 : (wrap64 (x6_1 + 1)) ≤ (a1.size : Int)
                · rw [if_pos c22] at H
                  have c22b0 := eq_true c22
                  have c22b1 : decide ((wrap64 (x6_1 + 1)) ≤ (a1.size : Int)) = true := decide_eq_true c22
                  by_cases c23 : x5_1.size + (a1.extract (x6_1 : Int).toNat ((wrap64 (x6_1 + 1)) : Int).toNat).size ≤ 9223372036854775807
                  · rw [if_pos c23] at H
                    have c23b0 := eq_true c23
                    have c23b1 : decide (x5_1.size + (a1.extract (x6_1 : Int).toNat ((wrap64 (x6_1 + 1)) : Int).toNat).size ≤ 9223372036854775807) = true := decide_eq_true c23
                    try have c23b2 : (9223372036854775807 < x5_1.size + (a1.extract (x6_1 : Int).toNat ((wrap64 (x6_1 + 1)) : Int).toNat).size) = False := eq_false (Nat.not_lt.2 c23)
                    have H' := Aside0.mk H
                    clear H
                    go_wp2
                    go_roundg k1
                    case measure => have := HK1.out; omega
                    case rel => exact ⟨(x5_1 ++ (a1.extract (x6_1 : Int).toNat ((wrap64 (x6_1 + 1)) : Int).toNat)), (wrap64 (x6_1 + 1)), (by first | rfl | (simp; done) | (simp [*]; done) | (simp [bne]; done)), (by first | rfl | (simp; done) | (simp [*]; done) | (simp [bne]; done)), H', ⟨by have := HK1.out; omega⟩, ⟨by (with_reducible repeat (first | refine blk_drewN ?_ _ | refine blk_drew ?_ | refine blk_alloc ?_ _)); exact BK109.out⟩, ⟨by repeat (first | (with_reducible first | exact HB.out | apply below_alloc | apply pw_below_drewN | apply below_drew1 | refine below_set ?_ GE109.out) | exact HB.out)⟩⟩
                  · rw [if_neg c23] at H
                    exact absurd H (by simp)
                · rw [if_neg c22] at H
                  exact absurd H (by simp)
              · rw [if_neg c21] at H
                exact absurd H (by simp)
            · rw [if_neg c20] at H
              exact absurd H (by simp)
        · rw [if_neg c5] at H
          have c5b0 : decide (0 < x6_1) = false := decide_eq_false c5
          clear c5
          by_cases c24 : 0 ≤ x6_1
          · rw [if_pos c24] at H
            have c24b0 := eq_true c24
            have c24b1 : decide (0 ≤ x6_1) = true := decide_eq_true c24
            clear c24
            by_cases c25 : x6_1 ≤ (wrap64 (x6_1 + 1))
            · rw [if_pos c25] at H
              have c25b0 := eq_true c25
              have c25b1 : decide (x6_1 ≤ (wrap64 (x6_1 + 1))) = true := decide_eq_true c25
              by_cases c26 : (wrap64 (x6_1 + 1)) ≤ (a1.size : Int)
              · rw [if_pos c26] at H
                have c26b0 := eq_true c26
                have c26b1 : decide ((wrap64 (x6_1 + 1)) ≤ (a1.size : Int)) = true := decide_eq_true c26
                by_cases c27 : x5_1.size + (a1.extract (x6_1 : Int).toNat ((wrap64 (x6_1 + 1)) : Int).toNat).size ≤ 9223372036854775807
                · rw [if_pos c27] at H
                  have c27b0 := eq_true c27
                  have c27b1 : decide (x5_1.size + (a1.extract (x6_1 : Int).toNat ((wrap64 (x6_1 + 1)) : Int).toNat).size ≤ 9223372036854775807) = true := decide_eq_true c27
                  try have c27b2 : (9223372036854775807 < x5_1.size + (a1.extract (x6_1 : Int).toNat ((wrap64 (x6_1 + 1)) : Int).toNat).size) = False := eq_false (Nat.not_lt.2 c27)
                  have H' := Aside0.mk H
                  clear H
                  go_wp2
                  go_roundg k1
                  case measure => have := HK1.out; omega
                  case rel => exact ⟨(x5_1 ++ (a1.extract (x6_1 : Int).toNat ((wrap64 (x6_1 + 1)) : Int).toNat)), (wrap64 (x6_1 + 1)), (by first | rfl | (simp; done) | (simp [*]; done) | (simp [bne]; done)), (by first | rfl | (simp; done) | (simp [*]; done) | (simp [bne]; done)), H', ⟨by have := HK1.out; omega⟩, ⟨by (with_reducible repeat (first | refine blk_drewN ?_ _ | refine blk_drew ?_ | refine blk_alloc ?_ _)); exact BK109.out⟩, ⟨by repeat (first | (with_reducible first | exact HB.out | apply below_alloc | apply pw_below_drewN | apply below_drew1 | refine below_set ?_ GE109.out) | exact HB.out)⟩⟩
                · rw [if_neg c27] at H
                  exact absurd H (by simp)
              · rw [if_neg c26] at H
                exact absurd H (by simp)
            · rw [if_neg c25] at H
              exact absurd H (by simp)
          · rw [if_neg c24] at H
            exact absurd H (by simp)
      · rw [if_neg c4] at H
        have c4b0 : decide (x6_1 < (a1.size : Int)) = false := decide_eq_false c4
        clear c4
        obtain rfl := Option.some.inj H
        go_wp2
        go_ret
        exact ⟨by first | rfl | (simp [errW_none, errW_some] <;> rfl) | (simp [*, errW_none, errW_some] <;> rfl), by repeat (first | (with_reducible first | exact HB.out | apply below_alloc | apply pw_below_drewN | apply below_drew1 | refine below_set ?_ GE109.out) | exact HB.out)⟩

/-! ### tabardref11_digit: function 42 -/
def tabardref11_digit.f (a0 : Int) : Option (Bool) := if a0 ≥ 48 then (some (decide (a0 ≤ 57))) else (some false)
set_option maxHeartbeats 8000000 in
set_option maxRecDepth 100000 in
theorem tabardref11_digit.calls (a0 : Int) (r : Bool) (w : World) (h : tabardref11_digit.f a0 = some r) :
    Calls Tryd.prog 42 #[.int .u8 a0] w fun e w' => e = .returned (.bool r) ∧ Drawn0 w w' := by
  have H : (if a0 ≥ 48 then (some (decide (a0 ≤ 57))) else (some false)) = some r := h
  clear h
  by_cases c2 : a0 ≥ 48
  · rw [if_pos c2] at H
    have c2b0 : decide (48 ≤ a0) = true := decide_eq_true c2
    clear c2
    obtain rfl := Option.some.inj H
    go_enter Tryd.func42, Tryd.ntmps42
    go_wp2
    go_ret
    exact ⟨by first | rfl | (simp; done) | (simp [*]; done) | (simp [bne]; done), by repeat (first | exact Drawn0.refl _ | apply Drawn0.step)⟩
  · rw [if_neg c2] at H
    have c2b0 : decide (48 ≤ a0) = false := decide_eq_false c2
    clear c2
    obtain rfl := Option.some.inj H
    go_enter Tryd.func42, Tryd.ntmps42
    go_wp2
    go_ret
    exact ⟨by first | rfl | (simp; done) | (simp [*]; done) | (simp [bne]; done), by repeat (first | exact Drawn0.refl _ | apply Drawn0.step)⟩

end Go.Proofs.YtmbhjogohfcjgaaDoor.L
