-- Laid by wip/tools/xprint.py, a program of this session's, over the kit's print. Lean checks it.
import Derived.Test.YtmbhjogohfcjgaaDoorL0
import Derived.Test.YtmbhjogohfcjgaaDoorL11
import Derived.Test.YtmbhjogohfcjgaaDoorL5
import Derived.Test.YtmbhjogohfcjgaaDoorL8
import Derived.Test.YtmbhjogohfcjgaaDoorLg
namespace Go.Proofs.YtmbhjogohfcjgaaDoor.L
open Go.RowKit Go.Proofs.YtmbhjogohfcjgaaDoorW.PrintWords Go.Proofs.YtmbhjogohfcjgaaDoorW.PrintLast Go.Proofs.YtmbhjogohfcjgaaDoorW.PrintMore
attribute [local go_sem] max2_int min2_int max_two min_two max_three min_three max_four min_four   -- for this text's walks alone
set_option linter.unusedVariables false
set_option linter.unusedSimpArgs false

/-! ### tabardlaw11_LocaleWrites: function 4 -/
def tabardlaw11_LocaleWrites.f (k : Nat) (a0 : Int) (a1_0 : Bool) (a1_1 : ByteArray) (a1_2 : Int) (a2 : Bool) (a3 : ByteArray) : Option (Bool) := (tabardlaw11_shown.f k).bind fun t287 => (if t287 = true then (if (a1_1.size : Int) > 1200 then (some t287) else (if (a3.size : Int) > 1000 then (some t287) else ((tabardlaw11_find.f a0).bind fun bt288 => ((locale_Locale_Write.f k bt288.1 bt288.2.1 bt288.2.2.1 bt288.2.2.2.1 bt288.2.2.2.2.1 bt288.2.2.2.2.2.1 bt288.2.2.2.2.2.2.1 bt288.2.2.2.2.2.2.2.1 bt288.2.2.2.2.2.2.2.2.1 bt288.2.2.2.2.2.2.2.2.2.1 a1_0 a1_1 a1_2 a2).bind fun t312 => ((tabardref11_Locale_Write.f k bt288.2.2.2.2.2.2.2.2.2.2.1 bt288.2.2.2.2.2.2.2.2.2.2.2.1 bt288.2.2.2.2.2.2.2.2.2.2.2.2.1 bt288.2.2.2.2.2.2.2.2.2.2.2.2.2.1 bt288.2.2.2.2.2.2.2.2.2.2.2.2.2.2.1 bt288.2.2.2.2.2.2.2.2.2.2.2.2.2.2.2.1 bt288.2.2.2.2.2.2.2.2.2.2.2.2.2.2.2.2.1 bt288.2.2.2.2.2.2.2.2.2.2.2.2.2.2.2.2.2.1 bt288.2.2.2.2.2.2.2.2.2.2.2.2.2.2.2.2.2.2.1 bt288.2.2.2.2.2.2.2.2.2.2.2.2.2.2.2.2.2.2.2 a1_0 a1_1 a1_2 a2).bind fun t313 => (if t312.toList = t313.toList then ((locale_Locale_Money.f bt288.1 bt288.2.1 bt288.2.2.1 bt288.2.2.2.1 bt288.2.2.2.2.1 bt288.2.2.2.2.2.1 bt288.2.2.2.2.2.2.1 bt288.2.2.2.2.2.2.2.1 bt288.2.2.2.2.2.2.2.2.1 bt288.2.2.2.2.2.2.2.2.2.1 a3).bind fun t314 => ((tabardref11_Locale_Money.f bt288.2.2.2.2.2.2.2.2.2.2.1 bt288.2.2.2.2.2.2.2.2.2.2.2.1 bt288.2.2.2.2.2.2.2.2.2.2.2.2.1 bt288.2.2.2.2.2.2.2.2.2.2.2.2.2.1 bt288.2.2.2.2.2.2.2.2.2.2.2.2.2.2.1 bt288.2.2.2.2.2.2.2.2.2.2.2.2.2.2.2.1 bt288.2.2.2.2.2.2.2.2.2.2.2.2.2.2.2.2.1 bt288.2.2.2.2.2.2.2.2.2.2.2.2.2.2.2.2.2.1 bt288.2.2.2.2.2.2.2.2.2.2.2.2.2.2.2.2.2.2.1 bt288.2.2.2.2.2.2.2.2.2.2.2.2.2.2.2.2.2.2.2 a3).bind fun t315 => (some (t314.toList == t315.toList)))) else (none))))))) else (some t287))
theorem tabardlaw11_LocaleWrites.mono : ∀ a0 a1 a2 a3 a4 a5 k, LeO (tabardlaw11_LocaleWrites.f k a0 a1 a2 a3 a4 a5) (tabardlaw11_LocaleWrites.f (k + 1) a0 a1 a2 a3 a4 a5) := by
  intro a0 a1 a2 a3 a4 a5 k
  unfold tabardlaw11_LocaleWrites.f
  repeat' first
      | (with_reducible exact locale_Locale_Write.mono _ _ _ _ _ _ _ _ _ _ _ _ _ _ _)
      | (with_reducible exact tabardlaw11_shown.mono _)
      | (with_reducible exact tabardref11_Locale_Write.mono _ _ _ _ _ _ _ _ _ _ _ _ _ _ _)
      | (with_reducible exact LeO.refl _)
      | (with_reducible exact LeO.none _)
      | (with_reducible refine LeO.ite ?_ ?_)
      | (with_reducible refine LeO.bind ?_ (fun _ => ?_))
      | exact locale_Locale_Write.mono _ _ _ _ _ _ _ _ _ _ _ _ _ _ _
      | exact tabardlaw11_shown.mono _
      | exact tabardref11_Locale_Write.mono _ _ _ _ _ _ _ _ _ _ _ _ _ _ _
      | exact LeO.none _
      | refine LeO.ite ?_ ?_
      | refine LeO.bind ?_ (fun _ => ?_)
def tabardlaw11_LocaleWrites.T5 : Bool × List (List Nat × List Nat) := (true, [([], []), ([], []), ([], []), ([0, 1, 2], [0, 1, 2]), ([], []), ([], []), ([], []), ([4, 5, 6, 3], [4, 5, 6]), ([3, 7], [3, 7]), ([8, 7], [8]), ([9], [9]), ([9], [9]), ([10, 11, 9, 9], [9, 10, 11]), ([9], [9]), ([9], [9]), ([13, 14, 12, 9], [9, 13, 14]), ([12, 15, 9], [9, 12, 15]), ([9, 16], [9, 16]), ([17, 15, 0, 1, 2, 3, 4, 5, 6, 7, 8, 9, 10, 11, 12, 13, 14, 15, 16, 17], [17])])
def tabardlaw11_LocaleWrites.B5 : List Nat := [0, 0, 0, 7, 0, 0, 0, 127, 255, 511, 1023, 1023, 4095, 1023, 1023, 32767, 65535, 131071, 262143]
theorem tabardlaw11_LocaleWrites.tab5 : rtab .any (opsOf Tryd.f4 5) = tabardlaw11_LocaleWrites.T5 := by kernel_rfl
theorem tabardlaw11_LocaleWrites.bits5 : waitsOk tabardlaw11_LocaleWrites.T5.2 tabardlaw11_LocaleWrites.B5 = true := by kernel_rfl
set_option maxHeartbeats 8000000 in
set_option maxRecDepth 100000 in
theorem tabardlaw11_LocaleWrites.calls (k : Nat) (a0 : Int) (a1_0 : Bool) (a1_1 : ByteArray) (a1_2 : Int) (a2 : Bool) (a3 : ByteArray) (r : Bool) (w : World) (hGL : GL w) (h : tabardlaw11_LocaleWrites.f k a0 a1_0 a1_1 a1_2 a2 a3 = some r) :
    Calls Tryd.prog 4 #[.int .i64 a0, .agg #[.bool a1_0, .string a1_1, .int .i64 a1_2], .bool a2, .string a3] w fun e w' => e = .returned (.bool r) ∧ Below w.heap.size w w' := by
  have hu36 := Tryd.underlying36
  have hu25 := Tryd.underlying25
  have hu27 := Tryd.underlying27
  have HGL := Aside0.mk hGL
  clear hGL
  have HB := Aside0.mk (Below.refl w.heap.size w)
  have H : ((tabardlaw11_shown.f k).bind fun t287 => (if t287 = true then (if (a1_1.size : Int) > 1200 then (some t287) else (if (a3.size : Int) > 1000 then (some t287) else ((tabardlaw11_find.f a0).bind fun bt288 => ((locale_Locale_Write.f k bt288.1 bt288.2.1 bt288.2.2.1 bt288.2.2.2.1 bt288.2.2.2.2.1 bt288.2.2.2.2.2.1 bt288.2.2.2.2.2.2.1 bt288.2.2.2.2.2.2.2.1 bt288.2.2.2.2.2.2.2.2.1 bt288.2.2.2.2.2.2.2.2.2.1 a1_0 a1_1 a1_2 a2).bind fun t312 => ((tabardref11_Locale_Write.f k bt288.2.2.2.2.2.2.2.2.2.2.1 bt288.2.2.2.2.2.2.2.2.2.2.2.1 bt288.2.2.2.2.2.2.2.2.2.2.2.2.1 bt288.2.2.2.2.2.2.2.2.2.2.2.2.2.1 bt288.2.2.2.2.2.2.2.2.2.2.2.2.2.2.1 bt288.2.2.2.2.2.2.2.2.2.2.2.2.2.2.2.1 bt288.2.2.2.2.2.2.2.2.2.2.2.2.2.2.2.2.1 bt288.2.2.2.2.2.2.2.2.2.2.2.2.2.2.2.2.2.1 bt288.2.2.2.2.2.2.2.2.2.2.2.2.2.2.2.2.2.2.1 bt288.2.2.2.2.2.2.2.2.2.2.2.2.2.2.2.2.2.2.2 a1_0 a1_1 a1_2 a2).bind fun t313 => (if t312.toList = t313.toList then ((locale_Locale_Money.f bt288.1 bt288.2.1 bt288.2.2.1 bt288.2.2.2.1 bt288.2.2.2.2.1 bt288.2.2.2.2.2.1 bt288.2.2.2.2.2.2.1 bt288.2.2.2.2.2.2.2.1 bt288.2.2.2.2.2.2.2.2.1 bt288.2.2.2.2.2.2.2.2.2.1 a3).bind fun t314 => ((tabardref11_Locale_Money.f bt288.2.2.2.2.2.2.2.2.2.2.1 bt288.2.2.2.2.2.2.2.2.2.2.2.1 bt288.2.2.2.2.2.2.2.2.2.2.2.2.1 bt288.2.2.2.2.2.2.2.2.2.2.2.2.2.1 bt288.2.2.2.2.2.2.2.2.2.2.2.2.2.2.1 bt288.2.2.2.2.2.2.2.2.2.2.2.2.2.2.2.1 bt288.2.2.2.2.2.2.2.2.2.2.2.2.2.2.2.2.1 bt288.2.2.2.2.2.2.2.2.2.2.2.2.2.2.2.2.2.1 bt288.2.2.2.2.2.2.2.2.2.2.2.2.2.2.2.2.2.2.1 bt288.2.2.2.2.2.2.2.2.2.2.2.2.2.2.2.2.2.2.2 a3).bind fun t315 => (some (t314.toList == t315.toList)))) else (none))))))) else (some t287))) = some r := h
  clear h
  replace H := Option.bind_eq_some_iff.mp H
  obtain ⟨t287, A50, H⟩ := H
  replace H : (if t287 = true then (if (a1_1.size : Int) > 1200 then (some t287) else (if (a3.size : Int) > 1000 then (some t287) else ((tabardlaw11_find.f a0).bind fun bt288 => ((locale_Locale_Write.f k bt288.1 bt288.2.1 bt288.2.2.1 bt288.2.2.2.1 bt288.2.2.2.2.1 bt288.2.2.2.2.2.1 bt288.2.2.2.2.2.2.1 bt288.2.2.2.2.2.2.2.1 bt288.2.2.2.2.2.2.2.2.1 bt288.2.2.2.2.2.2.2.2.2.1 a1_0 a1_1 a1_2 a2).bind fun t312 => ((tabardref11_Locale_Write.f k bt288.2.2.2.2.2.2.2.2.2.2.1 bt288.2.2.2.2.2.2.2.2.2.2.2.1 bt288.2.2.2.2.2.2.2.2.2.2.2.2.1 bt288.2.2.2.2.2.2.2.2.2.2.2.2.2.1 bt288.2.2.2.2.2.2.2.2.2.2.2.2.2.2.1 bt288.2.2.2.2.2.2.2.2.2.2.2.2.2.2.2.1 bt288.2.2.2.2.2.2.2.2.2.2.2.2.2.2.2.2.1 bt288.2.2.2.2.2.2.2.2.2.2.2.2.2.2.2.2.2.1 bt288.2.2.2.2.2.2.2.2.2.2.2.2.2.2.2.2.2.2.1 bt288.2.2.2.2.2.2.2.2.2.2.2.2.2.2.2.2.2.2.2 a1_0 a1_1 a1_2 a2).bind fun t313 => (if t312.toList = t313.toList then ((locale_Locale_Money.f bt288.1 bt288.2.1 bt288.2.2.1 bt288.2.2.2.1 bt288.2.2.2.2.1 bt288.2.2.2.2.2.1 bt288.2.2.2.2.2.2.1 bt288.2.2.2.2.2.2.2.1 bt288.2.2.2.2.2.2.2.2.1 bt288.2.2.2.2.2.2.2.2.2.1 a3).bind fun t314 => ((tabardref11_Locale_Money.f bt288.2.2.2.2.2.2.2.2.2.2.1 bt288.2.2.2.2.2.2.2.2.2.2.2.1 bt288.2.2.2.2.2.2.2.2.2.2.2.2.1 bt288.2.2.2.2.2.2.2.2.2.2.2.2.2.1 bt288.2.2.2.2.2.2.2.2.2.2.2.2.2.2.1 bt288.2.2.2.2.2.2.2.2.2.2.2.2.2.2.2.1 bt288.2.2.2.2.2.2.2.2.2.2.2.2.2.2.2.2.1 bt288.2.2.2.2.2.2.2.2.2.2.2.2.2.2.2.2.2.1 bt288.2.2.2.2.2.2.2.2.2.2.2.2.2.2.2.2.2.2.1 bt288.2.2.2.2.2.2.2.2.2.2.2.2.2.2.2.2.2.2.2 a3).bind fun t315 => (some (t314.toList == t315.toList)))) else (none))))))) else (some t287)) = some r := H
  have A5 := Aside0.mk A50
  clear A50
  by_cases c6 : t287 = true
  · subst c6
    have H1 : (if (a1_1.size : Int) > 1200 then (some true) else (if (a3.size : Int) > 1000 then (some true) else ((tabardlaw11_find.f a0).bind fun bt288 => ((locale_Locale_Write.f k bt288.1 bt288.2.1 bt288.2.2.1 bt288.2.2.2.1 bt288.2.2.2.2.1 bt288.2.2.2.2.2.1 bt288.2.2.2.2.2.2.1 bt288.2.2.2.2.2.2.2.1 bt288.2.2.2.2.2.2.2.2.1 bt288.2.2.2.2.2.2.2.2.2.1 a1_0 a1_1 a1_2 a2).bind fun t312 => ((tabardref11_Locale_Write.f k bt288.2.2.2.2.2.2.2.2.2.2.1 bt288.2.2.2.2.2.2.2.2.2.2.2.1 bt288.2.2.2.2.2.2.2.2.2.2.2.2.1 bt288.2.2.2.2.2.2.2.2.2.2.2.2.2.1 bt288.2.2.2.2.2.2.2.2.2.2.2.2.2.2.1 bt288.2.2.2.2.2.2.2.2.2.2.2.2.2.2.2.1 bt288.2.2.2.2.2.2.2.2.2.2.2.2.2.2.2.2.1 bt288.2.2.2.2.2.2.2.2.2.2.2.2.2.2.2.2.2.1 bt288.2.2.2.2.2.2.2.2.2.2.2.2.2.2.2.2.2.2.1 bt288.2.2.2.2.2.2.2.2.2.2.2.2.2.2.2.2.2.2.2 a1_0 a1_1 a1_2 a2).bind fun t313 => (if t312.toList = t313.toList then ((locale_Locale_Money.f bt288.1 bt288.2.1 bt288.2.2.1 bt288.2.2.2.1 bt288.2.2.2.2.1 bt288.2.2.2.2.2.1 bt288.2.2.2.2.2.2.1 bt288.2.2.2.2.2.2.2.1 bt288.2.2.2.2.2.2.2.2.1 bt288.2.2.2.2.2.2.2.2.2.1 a3).bind fun t314 => ((tabardref11_Locale_Money.f bt288.2.2.2.2.2.2.2.2.2.2.1 bt288.2.2.2.2.2.2.2.2.2.2.2.1 bt288.2.2.2.2.2.2.2.2.2.2.2.2.1 bt288.2.2.2.2.2.2.2.2.2.2.2.2.2.1 bt288.2.2.2.2.2.2.2.2.2.2.2.2.2.2.1 bt288.2.2.2.2.2.2.2.2.2.2.2.2.2.2.2.1 bt288.2.2.2.2.2.2.2.2.2.2.2.2.2.2.2.2.1 bt288.2.2.2.2.2.2.2.2.2.2.2.2.2.2.2.2.2.1 bt288.2.2.2.2.2.2.2.2.2.2.2.2.2.2.2.2.2.2.1 bt288.2.2.2.2.2.2.2.2.2.2.2.2.2.2.2.2.2.2.2 a3).bind fun t315 => (some (t314.toList == t315.toList)))) else (none))))))) = some r := by rw [if_pos rfl] at H; exact H
    clear H
    have H := H1
    clear H1
    by_cases c7 : (a1_1.size : Int) > 1200
    · rw [if_pos c7] at H
      have c7b0 : decide (1200 < (a1_1.size : Int)) = true := decide_eq_true c7
      have c7b1 : decide (1200 < a1_1.size) = true := decide_eq_true (by omega)
      clear c7
      obtain rfl := Option.some.inj H
      go_enter Tryd.func4, Tryd.ntmps4
      go_wp2_with (first | ((with_reducible refine gate_dst (N := 5) rfl ?_); (try (refine gate_guard (by rfl) ?_; dsimp only)); refine box_event ?hg (N := 5) ?hd (cs := #[.bool a1_0, .string a1_1, .int .i64 a1_2]) (t := 36) ?hr ?_; (case hd => rfl); (case hg => rfl); (case hr => first | (go_simp; done) | (go_simp; rfl)); intro gb286 hg w8 hbox hb; have n0_ := Aside0.mk (below_step (by repeat (first | (with_reducible first | exact HB.out | apply below_alloc | apply pw_below_drewN | apply below_drew1) | exact HB.out)) hb); have n1_ := Aside0.mk (hbox); have n2_ := Aside0.mk ((by rw [hg]; exact (below_size (by repeat (first | (with_reducible first | exact HB.out | apply below_alloc | apply pw_below_drewN | apply below_drew1) | exact HB.out))) : w.heap.size ≤ gb286)); have n3_ := Aside0.mk ((by rw [hg]; exact (below_size (by repeat (first | (with_reducible first | exact HB.out | apply below_alloc | apply pw_below_drewN | apply below_drew1) | exact HB.out))) : w.heap.size ≤ gb286)); clear HB; have HB := n0_; have BK286 := n1_; have GW286 := n2_; have GE286 := n3_; clear n0_ n1_ n2_ n3_; clear hb hbox hg) | ((with_reducible refine gate_callee (f := 10) rfl ?_); refine goesL_ (some 12) rfl rfl Tryd.func10 (by kernel_rfl) rfl #[] rfl (by (try simp only [List.map_toArray, List.map_cons, List.map_nil]); first | done | rfl | (simp only [List.length_drop, List.length_take]; rfl)) ?_; (with_reducible refine (tabardlaw11_shown.calls k  true _ ?side1 A5.out).mono ?_); (case side1 => exact GL.below HGL.out (by repeat (first | (with_reducible first | exact HB.out | apply below_alloc | apply pw_below_drewN | apply below_drew1 | refine below_set ?_ GE286.out) | exact HB.out))); rintro e w9 ⟨rfl, hb⟩; refine ⟨_, rfl, ?_⟩; have n0_ := Aside0.mk (blk_below (g := gb286) (o := .cells #[.bool a1_0, .string a1_1, .int .i64 a1_2] 36 (0, 0)) (by (with_reducible repeat (first | refine blk_drewN ?_ _ | refine blk_drew ?_ | refine blk_alloc ?_ _)); exact BK286.out) hb); have n1_ := Aside0.mk (below_step (by repeat (first | (with_reducible first | exact HB.out | apply below_alloc | apply pw_below_drewN | apply below_drew1 | refine below_set ?_ GE286.out) | exact HB.out)) hb); clear BK286; clear HB; have BK286 := n0_; have HB := n1_; clear n0_ n1_; (try clear hb); (try clear hb2); (try clear hk); (try clear hi); have hcz10_0 : w9.cell? ⟨gb286, 0, none⟩ = some (.bool a1_0) := (blk_cell BK286.out 0).trans rfl; have hcz10_1 : w9.cell? ⟨gb286, 1, none⟩ = some (.string a1_1) := (blk_cell BK286.out 1).trans rfl; have hcz10_2 : w9.cell? ⟨gb286, 2, none⟩ = some (.int .i64 a1_2) := (blk_cell BK286.out 2).trans rfl; have hfz10_0 := blk_frozen BK286.out 0; have hfz10_1 := blk_frozen BK286.out 1; have hfz10_2 := blk_frozen BK286.out 2))
      go_ret
      exact ⟨by first | rfl | (simp [errW_none, errW_some] <;> rfl) | (simp [*, errW_none, errW_some] <;> rfl), by repeat (first | (with_reducible first | exact HB.out | apply below_alloc | apply pw_below_drewN | apply below_drew1 | refine below_set ?_ GE286.out) | exact HB.out)⟩
    · rw [if_neg c7] at H
      have c7b0 : decide (1200 < (a1_1.size : Int)) = false := decide_eq_false c7
      have c7b1 : decide (1200 < a1_1.size) = false := decide_eq_false (by omega)
      clear c7
      by_cases c11 : (a3.size : Int) > 1000
      · rw [if_pos c11] at H
        have c11b0 : decide (1000 < (a3.size : Int)) = true := decide_eq_true c11
        have c11b1 : decide (1000 < a3.size) = true := decide_eq_true (by omega)
        clear c11
        obtain rfl := Option.some.inj H
        go_enter Tryd.func4, Tryd.ntmps4
        go_wp2_with (first | ((with_reducible refine gate_dst (N := 5) rfl ?_); (try (refine gate_guard (by rfl) ?_; dsimp only)); refine box_event ?hg (N := 5) ?hd (cs := #[.bool a1_0, .string a1_1, .int .i64 a1_2]) (t := 36) ?hr ?_; (case hd => rfl); (case hg => rfl); (case hr => first | (go_simp; done) | (go_simp; rfl)); intro gb286 hg w12 hbox hb; have n0_ := Aside0.mk (below_step (by repeat (first | (with_reducible first | exact HB.out | apply below_alloc | apply pw_below_drewN | apply below_drew1) | exact HB.out)) hb); have n1_ := Aside0.mk (hbox); have n2_ := Aside0.mk ((by rw [hg]; exact (below_size (by repeat (first | (with_reducible first | exact HB.out | apply below_alloc | apply pw_below_drewN | apply below_drew1) | exact HB.out))) : w.heap.size ≤ gb286)); have n3_ := Aside0.mk ((by rw [hg]; exact (below_size (by repeat (first | (with_reducible first | exact HB.out | apply below_alloc | apply pw_below_drewN | apply below_drew1) | exact HB.out))) : w.heap.size ≤ gb286)); clear HB; have HB := n0_; have BK286 := n1_; have GW286 := n2_; have GE286 := n3_; clear n0_ n1_ n2_ n3_; clear hb hbox hg) | ((with_reducible refine gate_callee (f := 10) rfl ?_); refine goesL_ (some 12) rfl rfl Tryd.func10 (by kernel_rfl) rfl #[] rfl (by (try simp only [List.map_toArray, List.map_cons, List.map_nil]); first | done | rfl | (simp only [List.length_drop, List.length_take]; rfl)) ?_; (with_reducible refine (tabardlaw11_shown.calls k  true _ ?side1 A5.out).mono ?_); (case side1 => exact GL.below HGL.out (by repeat (first | (with_reducible first | exact HB.out | apply below_alloc | apply pw_below_drewN | apply below_drew1 | refine below_set ?_ GE286.out) | exact HB.out))); rintro e w13 ⟨rfl, hb⟩; refine ⟨_, rfl, ?_⟩; have n0_ := Aside0.mk (blk_below (g := gb286) (o := .cells #[.bool a1_0, .string a1_1, .int .i64 a1_2] 36 (0, 0)) (by (with_reducible repeat (first | refine blk_drewN ?_ _ | refine blk_drew ?_ | refine blk_alloc ?_ _)); exact BK286.out) hb); have n1_ := Aside0.mk (below_step (by repeat (first | (with_reducible first | exact HB.out | apply below_alloc | apply pw_below_drewN | apply below_drew1 | refine below_set ?_ GE286.out) | exact HB.out)) hb); clear BK286; clear HB; have BK286 := n0_; have HB := n1_; clear n0_ n1_; (try clear hb); (try clear hb2); (try clear hk); (try clear hi); have hcz14_0 : w13.cell? ⟨gb286, 0, none⟩ = some (.bool a1_0) := (blk_cell BK286.out 0).trans rfl; have hcz14_1 : w13.cell? ⟨gb286, 1, none⟩ = some (.string a1_1) := (blk_cell BK286.out 1).trans rfl; have hcz14_2 : w13.cell? ⟨gb286, 2, none⟩ = some (.int .i64 a1_2) := (blk_cell BK286.out 2).trans rfl; have hfz14_0 := blk_frozen BK286.out 0; have hfz14_1 := blk_frozen BK286.out 1; have hfz14_2 := blk_frozen BK286.out 2))
        go_ret
        exact ⟨by first | rfl | (simp [errW_none, errW_some] <;> rfl) | (simp [*, errW_none, errW_some] <;> rfl), by repeat (first | (with_reducible first | exact HB.out | apply below_alloc | apply pw_below_drewN | apply below_drew1 | refine below_set ?_ GE286.out) | exact HB.out)⟩
      · rw [if_neg c11] at H
        have c11b0 : decide (1000 < (a3.size : Int)) = false := decide_eq_false c11
        have c11b1 : decide (1000 < a3.size) = false := decide_eq_false (by omega)
        clear c11
        replace H := Option.bind_eq_some_iff.mp H
        obtain ⟨⟨t288, t289, t290, t291, t292, t293, t294, t295, t296, t297, t300, t301, t302, t303, t304, t305, t306, t307, t308, t309⟩, A150, H⟩ := H
        replace H : ((locale_Locale_Write.f k t288 t289 t290 t291 t292 t293 t294 t295 t296 t297 a1_0 a1_1 a1_2 a2).bind fun t312 => ((tabardref11_Locale_Write.f k t300 t301 t302 t303 t304 t305 t306 t307 t308 t309 a1_0 a1_1 a1_2 a2).bind fun t313 => (if t312.toList = t313.toList then ((locale_Locale_Money.f t288 t289 t290 t291 t292 t293 t294 t295 t296 t297 a3).bind fun t314 => ((tabardref11_Locale_Money.f t300 t301 t302 t303 t304 t305 t306 t307 t308 t309 a3).bind fun t315 => (some (t314.toList == t315.toList)))) else (none)))) = some r := H
        have A15 := Aside0.mk A150
        clear A150
        replace H := Option.bind_eq_some_iff.mp H
        obtain ⟨t312, A160, H⟩ := H
        replace H : ((tabardref11_Locale_Write.f k t300 t301 t302 t303 t304 t305 t306 t307 t308 t309 a1_0 a1_1 a1_2 a2).bind fun t313 => (if t312.toList = t313.toList then ((locale_Locale_Money.f t288 t289 t290 t291 t292 t293 t294 t295 t296 t297 a3).bind fun t314 => ((tabardref11_Locale_Money.f t300 t301 t302 t303 t304 t305 t306 t307 t308 t309 a3).bind fun t315 => (some (t314.toList == t315.toList)))) else (none))) = some r := H
        have A16 := Aside0.mk A160
        clear A160
        replace H := Option.bind_eq_some_iff.mp H
        obtain ⟨t313, A170, H⟩ := H
        replace H : (if t312.toList = t313.toList then ((locale_Locale_Money.f t288 t289 t290 t291 t292 t293 t294 t295 t296 t297 a3).bind fun t314 => ((tabardref11_Locale_Money.f t300 t301 t302 t303 t304 t305 t306 t307 t308 t309 a3).bind fun t315 => (some (t314.toList == t315.toList)))) else (none)) = some r := H
        have A17 := Aside0.mk A170
        clear A170
        by_cases c18 : t312.toList = t313.toList
        · rw [if_pos c18] at H
          have c18b0 : (t312.toList == t313.toList) = true := beq_iff_eq.mpr c18
          have c18b1 : (t312.toList != t313.toList) = false := bne_eq_false_iff_eq.mpr c18
          clear c18
          replace H := Option.bind_eq_some_iff.mp H
          obtain ⟨t314, A190, H⟩ := H
          replace H : ((tabardref11_Locale_Money.f t300 t301 t302 t303 t304 t305 t306 t307 t308 t309 a3).bind fun t315 => (some (t314.toList == t315.toList))) = some r := H
          have A19 := Aside0.mk A190
          clear A190
          replace H := Option.bind_eq_some_iff.mp H
          obtain ⟨t315, A200, H⟩ := H
          replace H : (some (t314.toList == t315.toList)) = some r := H
          have A20 := Aside0.mk A200
          clear A200
          obtain rfl := Option.some.inj H
          go_enter Tryd.func4, Tryd.ntmps4
          try go_wp2_with (first | ((with_reducible refine gate_dst (N := 5) rfl ?_); (try (refine gate_guard (by rfl) ?_; dsimp only)); refine box_event ?hg (N := 5) ?hd (cs := #[.bool a1_0, .string a1_1, .int .i64 a1_2]) (t := 36) ?hr ?_; (case hd => rfl); (case hg => rfl); (case hr => first | (go_simp; done) | (go_simp; rfl)); intro gb286 hg w21 hbox hb; have n0_ := Aside0.mk (below_step (by repeat (first | (with_reducible first | exact HB.out | apply below_alloc | apply pw_below_drewN | apply below_drew1) | exact HB.out)) hb); have n1_ := Aside0.mk (hbox); have n2_ := Aside0.mk ((by rw [hg]; exact (below_size (by repeat (first | (with_reducible first | exact HB.out | apply below_alloc | apply pw_below_drewN | apply below_drew1) | exact HB.out))) : w.heap.size ≤ gb286)); have n3_ := Aside0.mk ((by rw [hg]; exact (below_size (by repeat (first | (with_reducible first | exact HB.out | apply below_alloc | apply pw_below_drewN | apply below_drew1) | exact HB.out))) : w.heap.size ≤ gb286)); clear HB; have HB := n0_; have BK286 := n1_; have GW286 := n2_; have GE286 := n3_; clear n0_ n1_ n2_ n3_; clear hb hbox hg) | ((with_reducible refine gate_callee (f := 10) rfl ?_); refine goesL_ (some 12) rfl rfl Tryd.func10 (by kernel_rfl) rfl #[] rfl (by (try simp only [List.map_toArray, List.map_cons, List.map_nil]); first | done | rfl | (simp only [List.length_drop, List.length_take]; rfl)) ?_; (with_reducible refine (tabardlaw11_shown.calls k  true _ ?side1 A5.out).mono ?_); (case side1 => exact GL.below HGL.out (by repeat (first | (with_reducible first | exact HB.out | apply below_alloc | apply pw_below_drewN | apply below_drew1 | refine below_set ?_ GE286.out) | exact HB.out))); rintro e w22 ⟨rfl, hb⟩; refine ⟨_, rfl, ?_⟩; have n0_ := Aside0.mk (blk_below (g := gb286) (o := .cells #[.bool a1_0, .string a1_1, .int .i64 a1_2] 36 (0, 0)) (by (with_reducible repeat (first | refine blk_drewN ?_ _ | refine blk_drew ?_ | refine blk_alloc ?_ _)); exact BK286.out) hb); have n1_ := Aside0.mk (below_step (by repeat (first | (with_reducible first | exact HB.out | apply below_alloc | apply pw_below_drewN | apply below_drew1 | refine below_set ?_ GE286.out) | exact HB.out)) hb); clear BK286; clear HB; have BK286 := n0_; have HB := n1_; clear n0_ n1_; (try clear hb); (try clear hb2); (try clear hk); (try clear hi); have hcz23_0 : w22.cell? ⟨gb286, 0, none⟩ = some (.bool a1_0) := (blk_cell BK286.out 0).trans rfl; have hcz23_1 : w22.cell? ⟨gb286, 1, none⟩ = some (.string a1_1) := (blk_cell BK286.out 1).trans rfl; have hcz23_2 : w22.cell? ⟨gb286, 2, none⟩ = some (.int .i64 a1_2) := (blk_cell BK286.out 2).trans rfl; have hfz23_0 := blk_frozen BK286.out 0; have hfz23_1 := blk_frozen BK286.out 1; have hfz23_2 := blk_frozen BK286.out 2) | ((with_reducible refine gate_callee (f := 11) rfl ?_); refine goesL_ (some 29) rfl rfl Tryd.func11 (by kernel_rfl) rfl #[.int .i64 a0] rfl (by (try simp only [List.map_toArray, List.map_cons, List.map_nil]); first | done | rfl | (simp only [List.length_drop, List.length_take]; rfl)) ?_; (with_reducible refine (tabardlaw11_find.calls a0 t288 t289 t290 t291 t292 t293 t294 t295 t296 t297 t300 t301 t302 t303 t304 t305 t306 t307 t308 t309 _ ?side1 A15.out).mono ?_); (case side1 => exact GL.below HGL.out (by repeat (first | (with_reducible first | exact HB.out | apply below_alloc | apply pw_below_drewN | apply below_drew1 | refine below_set ?_ GE286.out) | exact HB.out))); rintro e w24 ⟨v298, rfl, ho0, hb⟩; refine ⟨_, rfl, ?_⟩; have n0_ := Aside0.mk (Kd.R_lower ho0 (below_size (by repeat (first | (with_reducible first | exact HB.out | apply below_alloc | apply pw_below_drewN | apply below_drew1 | refine below_set ?_ GE286.out) | exact HB.out)))); have n1_ := Aside0.mk (blk_below (g := gb286) (o := .cells #[.bool a1_0, .string a1_1, .int .i64 a1_2] 36 (0, 0)) (by (with_reducible repeat (first | refine blk_drewN ?_ _ | refine blk_drew ?_ | refine blk_alloc ?_ _)); exact BK286.out) hb); have n2_ := Aside0.mk (below_step (by repeat (first | (with_reducible first | exact HB.out | apply below_alloc | apply pw_below_drewN | apply below_drew1 | refine below_set ?_ GE286.out) | exact HB.out)) hb); clear BK286; clear HB; have HO299 := n0_; have BK286 := n1_; have HB := n2_; clear n0_ n1_ n2_; (try clear hb); (try clear hb2); (try clear hk); (try clear hi); (try clear ho0)) | ((with_reducible refine gate_dst (N := 10) rfl ?_); (try (refine gate_guard (by rfl) ?_; dsimp only)); refine box_event ?hg (N := 10) ?hd (cs := #[.string (⟨#[]⟩ : ByteArray), .string (⟨#[]⟩ : ByteArray), .string (⟨#[]⟩ : ByteArray), .string (⟨#[]⟩ : ByteArray), .string (⟨#[]⟩ : ByteArray), .string (⟨#[]⟩ : ByteArray), .string (⟨#[]⟩ : ByteArray), .bool false, .bool false, .slice none 0 0]) (t := 25) ?hr ?_; (case hd => rfl); (case hg => rfl); (case hr => first | (go_simp; done) | (go_simp; rfl)); intro gb310 hg w25 hbox hb; have n0_ := Aside0.mk (Kd.R_below (by (with_reducible repeat (first | apply Kd.R_alloc | apply Kd.R_drewN | apply Kd.R_drew)); exact HO299.out) hb); have n1_ := Aside0.mk (blk_below (g := gb286) (o := .cells #[.bool a1_0, .string a1_1, .int .i64 a1_2] 36 (0, 0)) (by (with_reducible repeat (first | refine blk_drewN ?_ _ | refine blk_drew ?_ | refine blk_alloc ?_ _)); exact BK286.out) hb); have n2_ := Aside0.mk (below_step (by repeat (first | (with_reducible first | exact HB.out | apply below_alloc | apply pw_below_drewN | apply below_drew1 | refine below_set ?_ GE286.out) | exact HB.out)) hb); have n3_ := Aside0.mk (hbox); have n4_ := Aside0.mk ((by rw [hg]; exact (below_size (by repeat (first | (with_reducible first | exact HB.out | apply below_alloc | apply pw_below_drewN | apply below_drew1 | refine below_set ?_ GE286.out) | exact HB.out))) : w.heap.size ≤ gb310)); have n5_ := Aside0.mk ((by rw [hg]; exact (below_size (by repeat (first | (with_reducible first | exact HB.out | apply below_alloc | apply pw_below_drewN | apply below_drew1 | refine below_set ?_ GE286.out) | exact HB.out))) : w.heap.size ≤ gb310)); have n6_ := Aside0.mk ((by rw [hg]; exact Nat.ne_of_lt (blk_lt (g := gb286) (o := .cells #[.bool a1_0, .string a1_1, .int .i64 a1_2] 36 (0, 0)) (by (with_reducible repeat (first | refine blk_drewN ?_ _ | refine blk_drew ?_ | refine blk_alloc ?_ _)); exact BK286.out)) : gb286 ≠ gb310)); have n7_ := Aside0.mk ((by rw [hg]; exact Nat.ne_of_gt (blk_lt (g := gb286) (o := .cells #[.bool a1_0, .string a1_1, .int .i64 a1_2] 36 (0, 0)) (by (with_reducible repeat (first | refine blk_drewN ?_ _ | refine blk_drew ?_ | refine blk_alloc ?_ _)); exact BK286.out)) : gb310 ≠ gb286)); clear HO299; clear BK286; clear HB; have HO299 := n0_; have BK286 := n1_; have HB := n2_; have BK310 := n3_; have GW310 := n4_; have GE310 := n5_; have NB286_310 := n6_; have NB310_286 := n7_; clear n0_ n1_ n2_ n3_ n4_ n5_ n6_ n7_; clear hb hbox hg) | ((with_reducible refine gate_dst (N := 11) rfl ?_); (try (refine gate_guard (by rfl) ?_; dsimp only)); refine box_event ?hg (N := 11) ?hd (cs := #[.string (⟨#[]⟩ : ByteArray), .string (⟨#[]⟩ : ByteArray), .string (⟨#[]⟩ : ByteArray), .string (⟨#[]⟩ : ByteArray), .string (⟨#[]⟩ : ByteArray), .string (⟨#[]⟩ : ByteArray), .string (⟨#[]⟩ : ByteArray), .bool false, .bool false, .int .i64 0]) (t := 27) ?hr ?_; (case hd => rfl); (case hg => rfl); (case hr => first | (go_simp; done) | (go_simp; rfl)); intro gb311 hg w26 hbox hb; have n0_ := Aside0.mk (Kd.R_below (by (with_reducible repeat (first | apply Kd.R_alloc | apply Kd.R_drewN | apply Kd.R_drew)); exact HO299.out) hb); have n1_ := Aside0.mk (blk_below (g := gb286) (o := .cells #[.bool a1_0, .string a1_1, .int .i64 a1_2] 36 (0, 0)) (by (with_reducible repeat (first | refine blk_drewN ?_ _ | refine blk_drew ?_ | refine blk_alloc ?_ _)); exact BK286.out) hb); have n2_ := Aside0.mk (blk_below (g := gb310) (o := .cells #[.string (⟨#[]⟩ : ByteArray), .string (⟨#[]⟩ : ByteArray), .string (⟨#[]⟩ : ByteArray), .string (⟨#[]⟩ : ByteArray), .string (⟨#[]⟩ : ByteArray), .string (⟨#[]⟩ : ByteArray), .string (⟨#[]⟩ : ByteArray), .bool false, .bool false, .slice none 0 0] 25 (0, 0)) (by (with_reducible repeat (first | refine blk_drewN ?_ _ | refine blk_drew ?_ | refine blk_alloc ?_ _)); exact BK310.out) hb); have n3_ := Aside0.mk (below_step (by repeat (first | (with_reducible first | exact HB.out | apply below_alloc | apply pw_below_drewN | apply below_drew1 | refine below_set ?_ GE286.out | refine below_set ?_ GE310.out) | exact HB.out)) hb); have n4_ := Aside0.mk (hbox); have n5_ := Aside0.mk ((by rw [hg]; exact (below_size (by repeat (first | (with_reducible first | exact HB.out | apply below_alloc | apply pw_below_drewN | apply below_drew1 | refine below_set ?_ GE286.out | refine below_set ?_ GE310.out) | exact HB.out))) : w.heap.size ≤ gb311)); have n6_ := Aside0.mk ((by rw [hg]; exact (below_size (by repeat (first | (with_reducible first | exact HB.out | apply below_alloc | apply pw_below_drewN | apply below_drew1 | refine below_set ?_ GE286.out | refine below_set ?_ GE310.out) | exact HB.out))) : w.heap.size ≤ gb311)); have n7_ := Aside0.mk ((by rw [hg]; exact Nat.ne_of_lt (blk_lt (g := gb286) (o := .cells #[.bool a1_0, .string a1_1, .int .i64 a1_2] 36 (0, 0)) (by (with_reducible repeat (first | refine blk_drewN ?_ _ | refine blk_drew ?_ | refine blk_alloc ?_ _)); exact BK286.out)) : gb286 ≠ gb311)); have n8_ := Aside0.mk ((by rw [hg]; exact Nat.ne_of_gt (blk_lt (g := gb286) (o := .cells #[.bool a1_0, .string a1_1, .int .i64 a1_2] 36 (0, 0)) (by (with_reducible repeat (first | refine blk_drewN ?_ _ | refine blk_drew ?_ | refine blk_alloc ?_ _)); exact BK286.out)) : gb311 ≠ gb286)); have n9_ := Aside0.mk ((by rw [hg]; exact Nat.ne_of_lt (blk_lt (g := gb310) (o := .cells #[.string (⟨#[]⟩ : ByteArray), .string (⟨#[]⟩ : ByteArray), .string (⟨#[]⟩ : ByteArray), .string (⟨#[]⟩ : ByteArray), .string (⟨#[]⟩ : ByteArray), .string (⟨#[]⟩ : ByteArray), .string (⟨#[]⟩ : ByteArray), .bool false, .bool false, .slice none 0 0] 25 (0, 0)) (by (with_reducible repeat (first | refine blk_drewN ?_ _ | refine blk_drew ?_ | refine blk_alloc ?_ _)); exact BK310.out)) : gb310 ≠ gb311)); have n10_ := Aside0.mk ((by rw [hg]; exact Nat.ne_of_gt (blk_lt (g := gb310) (o := .cells #[.string (⟨#[]⟩ : ByteArray), .string (⟨#[]⟩ : ByteArray), .string (⟨#[]⟩ : ByteArray), .string (⟨#[]⟩ : ByteArray), .string (⟨#[]⟩ : ByteArray), .string (⟨#[]⟩ : ByteArray), .string (⟨#[]⟩ : ByteArray), .bool false, .bool false, .slice none 0 0] 25 (0, 0)) (by (with_reducible repeat (first | refine blk_drewN ?_ _ | refine blk_drew ?_ | refine blk_alloc ?_ _)); exact BK310.out)) : gb311 ≠ gb310)); clear HO299; clear BK286; clear BK310; clear HB; have HO299 := n0_; have BK286 := n1_; have BK310 := n2_; have HB := n3_; have BK311 := n4_; have GW311 := n5_; have GE311 := n6_; have NB286_311 := n7_; have NB311_286 := n8_; have NB310_311 := n9_; have NB311_310 := n10_; clear n0_ n1_ n2_ n3_ n4_ n5_ n6_ n7_ n8_ n9_ n10_; clear hb hbox hg; have hnb27 := NB310_286.out; have hnc27 := NB286_310.out; have hnb28 := NB310_311.out; have hnc28 := NB311_310.out; have hcz29_0 : w26.cell? ⟨gb310, 0, none⟩ = some (.string (⟨#[]⟩ : ByteArray)) := (blk_cell BK310.out 0).trans rfl; have hcz29_1 : w26.cell? ⟨gb310, 1, none⟩ = some (.string (⟨#[]⟩ : ByteArray)) := (blk_cell BK310.out 1).trans rfl; have hcz29_2 : w26.cell? ⟨gb310, 2, none⟩ = some (.string (⟨#[]⟩ : ByteArray)) := (blk_cell BK310.out 2).trans rfl; have hcz29_3 : w26.cell? ⟨gb310, 3, none⟩ = some (.string (⟨#[]⟩ : ByteArray)) := (blk_cell BK310.out 3).trans rfl; have hcz29_4 : w26.cell? ⟨gb310, 4, none⟩ = some (.string (⟨#[]⟩ : ByteArray)) := (blk_cell BK310.out 4).trans rfl; have hcz29_5 : w26.cell? ⟨gb310, 5, none⟩ = some (.string (⟨#[]⟩ : ByteArray)) := (blk_cell BK310.out 5).trans rfl; have hcz29_6 : w26.cell? ⟨gb310, 6, none⟩ = some (.string (⟨#[]⟩ : ByteArray)) := (blk_cell BK310.out 6).trans rfl; have hcz29_7 : w26.cell? ⟨gb310, 7, none⟩ = some (.bool false) := (blk_cell BK310.out 7).trans rfl; have hcz29_8 : w26.cell? ⟨gb310, 8, none⟩ = some (.bool false) := (blk_cell BK310.out 8).trans rfl; have hcz29_9 : w26.cell? ⟨gb310, 9, none⟩ = some (.slice none 0 0) := (blk_cell BK310.out 9).trans rfl; have hfz29_0 := blk_frozen BK310.out 0; have hfz29_1 := blk_frozen BK310.out 1; have hfz29_2 := blk_frozen BK310.out 2; have hfz29_3 := blk_frozen BK310.out 3; have hfz29_4 := blk_frozen BK310.out 4; have hfz29_5 := blk_frozen BK310.out 5; have hfz29_6 := blk_frozen BK310.out 6; have hfz29_7 := blk_frozen BK310.out 7; have hfz29_8 := blk_frozen BK310.out 8; have hfz29_9 := blk_frozen BK310.out 9; obtain ⟨Ao30, co30, eo30⟩ := Kd.R_slice HO299.out; subst eo30; have hnb31 := NB311_286.out; have hnc31 := NB286_311.out; have hcz32_0 : w26.cell? ⟨gb311, 0, none⟩ = some (.string (⟨#[]⟩ : ByteArray)) := (blk_cell BK311.out 0).trans rfl; have hcz32_1 : w26.cell? ⟨gb311, 1, none⟩ = some (.string (⟨#[]⟩ : ByteArray)) := (blk_cell BK311.out 1).trans rfl; have hcz32_2 : w26.cell? ⟨gb311, 2, none⟩ = some (.string (⟨#[]⟩ : ByteArray)) := (blk_cell BK311.out 2).trans rfl; have hcz32_3 : w26.cell? ⟨gb311, 3, none⟩ = some (.string (⟨#[]⟩ : ByteArray)) := (blk_cell BK311.out 3).trans rfl; have hcz32_4 : w26.cell? ⟨gb311, 4, none⟩ = some (.string (⟨#[]⟩ : ByteArray)) := (blk_cell BK311.out 4).trans rfl; have hcz32_5 : w26.cell? ⟨gb311, 5, none⟩ = some (.string (⟨#[]⟩ : ByteArray)) := (blk_cell BK311.out 5).trans rfl; have hcz32_6 : w26.cell? ⟨gb311, 6, none⟩ = some (.string (⟨#[]⟩ : ByteArray)) := (blk_cell BK311.out 6).trans rfl; have hcz32_7 : w26.cell? ⟨gb311, 7, none⟩ = some (.bool false) := (blk_cell BK311.out 7).trans rfl; have hcz32_8 : w26.cell? ⟨gb311, 8, none⟩ = some (.bool false) := (blk_cell BK311.out 8).trans rfl; have hcz32_9 : w26.cell? ⟨gb311, 9, none⟩ = some (.int .i64 0) := (blk_cell BK311.out 9).trans rfl; have hfz32_0 := blk_frozen BK311.out 0; have hfz32_1 := blk_frozen BK311.out 1; have hfz32_2 := blk_frozen BK311.out 2; have hfz32_3 := blk_frozen BK311.out 3; have hfz32_4 := blk_frozen BK311.out 4; have hfz32_5 := blk_frozen BK311.out 5; have hfz32_6 := blk_frozen BK311.out 6; have hfz32_7 := blk_frozen BK311.out 7; have hfz32_8 := blk_frozen BK311.out 8; have hfz32_9 := blk_frozen BK311.out 9))
          have n0_ : Aside0 (Kd.R (Kd.int .i64) 3 ((((((((((((((((((((w26.setCell ⟨gb310, 0, none⟩ (.string t288)).setCell ⟨gb310, 1, none⟩ (.string t289)).setCell ⟨gb310, 2, none⟩ (.string t290)).setCell ⟨gb310, 3, none⟩ (.string t291)).setCell ⟨gb310, 4, none⟩ (.string t292)).setCell ⟨gb310, 5, none⟩ (.string t293)).setCell ⟨gb310, 6, none⟩ (.string t294)).setCell ⟨gb310, 7, none⟩ (.bool t295)).setCell ⟨gb310, 8, none⟩ (.bool t296)).setCell ⟨gb310, 9, none⟩ (.slice Ao30 t297.length co30)).setCell ⟨gb311, 0, none⟩ (.string t300)).setCell ⟨gb311, 1, none⟩ (.string t301)).setCell ⟨gb311, 2, none⟩ (.string t302)).setCell ⟨gb311, 3, none⟩ (.string t303)).setCell ⟨gb311, 4, none⟩ (.string t304)).setCell ⟨gb311, 5, none⟩ (.string t305)).setCell ⟨gb311, 6, none⟩ (.string t306)).setCell ⟨gb311, 7, none⟩ (.bool t307)).setCell ⟨gb311, 8, none⟩ (.bool t308)).setCell ⟨gb311, 9, none⟩ (.int .i64 t309)) w.heap.size (fun _ => True) (.slice Ao30 t297.length co30) t297) := ⟨by (with_reducible repeat (first | apply Kd.R_alloc | apply Kd.R_drewN | apply Kd.R_drew)); exact Kd.R_mono (Kd.R_far (p := ⟨gb311, 9, none⟩) (Kd.R_far (p := ⟨gb311, 8, none⟩) (Kd.R_far (p := ⟨gb311, 7, none⟩) (Kd.R_far (p := ⟨gb311, 6, none⟩) (Kd.R_far (p := ⟨gb311, 5, none⟩) (Kd.R_far (p := ⟨gb311, 4, none⟩) (Kd.R_far (p := ⟨gb311, 3, none⟩) (Kd.R_far (p := ⟨gb311, 2, none⟩) (Kd.R_far (p := ⟨gb311, 1, none⟩) (Kd.R_far (p := ⟨gb311, 0, none⟩) (Kd.R_far (p := ⟨gb310, 9, none⟩) (Kd.R_far (p := ⟨gb310, 8, none⟩) (Kd.R_far (p := ⟨gb310, 7, none⟩) (Kd.R_far (p := ⟨gb310, 6, none⟩) (Kd.R_far (p := ⟨gb310, 5, none⟩) (Kd.R_far (p := ⟨gb310, 4, none⟩) (Kd.R_far (p := ⟨gb310, 3, none⟩) (Kd.R_far (p := ⟨gb310, 2, none⟩) (Kd.R_far (p := ⟨gb310, 1, none⟩) (Kd.R_far (p := ⟨gb310, 0, none⟩) (Kd.R_types (Kd.R_types HO299.out BK310.out (by decide)) BK311.out (by decide)) (fun _ hk => hk.1.2) (.string t288)) (fun _ hk => hk.1.2) (.string t289)) (fun _ hk => hk.1.2) (.string t290)) (fun _ hk => hk.1.2) (.string t291)) (fun _ hk => hk.1.2) (.string t292)) (fun _ hk => hk.1.2) (.string t293)) (fun _ hk => hk.1.2) (.string t294)) (fun _ hk => hk.1.2) (.bool t295)) (fun _ hk => hk.1.2) (.bool t296)) (fun _ hk => hk.1.2) (.slice Ao30 t297.length co30)) (fun _ hk => hk.2) (.string t300)) (fun _ hk => hk.2) (.string t301)) (fun _ hk => hk.2) (.string t302)) (fun _ hk => hk.2) (.string t303)) (fun _ hk => hk.2) (.string t304)) (fun _ hk => hk.2) (.string t305)) (fun _ hk => hk.2) (.string t306)) (fun _ hk => hk.2) (.bool t307)) (fun _ hk => hk.2) (.bool t308)) (fun _ hk => hk.2) (.int .i64 t309)) (fun _ hk => trivial)⟩
          have n1_ : Aside0 (((((((((((((((((((((w26.setCell ⟨gb310, 0, none⟩ (.string t288)).setCell ⟨gb310, 1, none⟩ (.string t289)).setCell ⟨gb310, 2, none⟩ (.string t290)).setCell ⟨gb310, 3, none⟩ (.string t291)).setCell ⟨gb310, 4, none⟩ (.string t292)).setCell ⟨gb310, 5, none⟩ (.string t293)).setCell ⟨gb310, 6, none⟩ (.string t294)).setCell ⟨gb310, 7, none⟩ (.bool t295)).setCell ⟨gb310, 8, none⟩ (.bool t296)).setCell ⟨gb310, 9, none⟩ (.slice Ao30 t297.length co30)).setCell ⟨gb311, 0, none⟩ (.string t300)).setCell ⟨gb311, 1, none⟩ (.string t301)).setCell ⟨gb311, 2, none⟩ (.string t302)).setCell ⟨gb311, 3, none⟩ (.string t303)).setCell ⟨gb311, 4, none⟩ (.string t304)).setCell ⟨gb311, 5, none⟩ (.string t305)).setCell ⟨gb311, 6, none⟩ (.string t306)).setCell ⟨gb311, 7, none⟩ (.bool t307)).setCell ⟨gb311, 8, none⟩ (.bool t308)).setCell ⟨gb311, 9, none⟩ (.int .i64 t309)).heap[gb286]? = some (.cells #[.bool a1_0, .string a1_1, .int .i64 a1_2] 36 (0, 0))) := ⟨by (with_reducible repeat (first | refine blk_drewN ?_ _ | refine blk_drew ?_ | refine blk_alloc ?_ _)); refine blk_far ?_ NB286_311.out _; (with_reducible repeat (first | refine blk_drewN ?_ _ | refine blk_drew ?_ | refine blk_alloc ?_ _)); refine blk_far ?_ NB286_311.out _; (with_reducible repeat (first | refine blk_drewN ?_ _ | refine blk_drew ?_ | refine blk_alloc ?_ _)); refine blk_far ?_ NB286_311.out _; (with_reducible repeat (first | refine blk_drewN ?_ _ | refine blk_drew ?_ | refine blk_alloc ?_ _)); refine blk_far ?_ NB286_311.out _; (with_reducible repeat (first | refine blk_drewN ?_ _ | refine blk_drew ?_ | refine blk_alloc ?_ _)); refine blk_far ?_ NB286_311.out _; (with_reducible repeat (first | refine blk_drewN ?_ _ | refine blk_drew ?_ | refine blk_alloc ?_ _)); refine blk_far ?_ NB286_311.out _; (with_reducible repeat (first | refine blk_drewN ?_ _ | refine blk_drew ?_ | refine blk_alloc ?_ _)); refine blk_far ?_ NB286_311.out _; (with_reducible repeat (first | refine blk_drewN ?_ _ | refine blk_drew ?_ | refine blk_alloc ?_ _)); refine blk_far ?_ NB286_311.out _; (with_reducible repeat (first | refine blk_drewN ?_ _ | refine blk_drew ?_ | refine blk_alloc ?_ _)); refine blk_far ?_ NB286_311.out _; (with_reducible repeat (first | refine blk_drewN ?_ _ | refine blk_drew ?_ | refine blk_alloc ?_ _)); refine blk_far ?_ NB286_311.out _; (with_reducible repeat (first | refine blk_drewN ?_ _ | refine blk_drew ?_ | refine blk_alloc ?_ _)); refine blk_far ?_ NB286_310.out _; (with_reducible repeat (first | refine blk_drewN ?_ _ | refine blk_drew ?_ | refine blk_alloc ?_ _)); refine blk_far ?_ NB286_310.out _; (with_reducible repeat (first | refine blk_drewN ?_ _ | refine blk_drew ?_ | refine blk_alloc ?_ _)); refine blk_far ?_ NB286_310.out _; (with_reducible repeat (first | refine blk_drewN ?_ _ | refine blk_drew ?_ | refine blk_alloc ?_ _)); refine blk_far ?_ NB286_310.out _; (with_reducible repeat (first | refine blk_drewN ?_ _ | refine blk_drew ?_ | refine blk_alloc ?_ _)); refine blk_far ?_ NB286_310.out _; (with_reducible repeat (first | refine blk_drewN ?_ _ | refine blk_drew ?_ | refine blk_alloc ?_ _)); refine blk_far ?_ NB286_310.out _; (with_reducible repeat (first | refine blk_drewN ?_ _ | refine blk_drew ?_ | refine blk_alloc ?_ _)); refine blk_far ?_ NB286_310.out _; (with_reducible repeat (first | refine blk_drewN ?_ _ | refine blk_drew ?_ | refine blk_alloc ?_ _)); refine blk_far ?_ NB286_310.out _; (with_reducible repeat (first | refine blk_drewN ?_ _ | refine blk_drew ?_ | refine blk_alloc ?_ _)); refine blk_far ?_ NB286_310.out _; (with_reducible repeat (first | refine blk_drewN ?_ _ | refine blk_drew ?_ | refine blk_alloc ?_ _)); refine blk_far ?_ NB286_310.out _; (with_reducible repeat (first | refine blk_drewN ?_ _ | refine blk_drew ?_ | refine blk_alloc ?_ _)); exact BK286.out⟩
          have n2_ : Aside0 (((((((((((((((((((((w26.setCell ⟨gb310, 0, none⟩ (.string t288)).setCell ⟨gb310, 1, none⟩ (.string t289)).setCell ⟨gb310, 2, none⟩ (.string t290)).setCell ⟨gb310, 3, none⟩ (.string t291)).setCell ⟨gb310, 4, none⟩ (.string t292)).setCell ⟨gb310, 5, none⟩ (.string t293)).setCell ⟨gb310, 6, none⟩ (.string t294)).setCell ⟨gb310, 7, none⟩ (.bool t295)).setCell ⟨gb310, 8, none⟩ (.bool t296)).setCell ⟨gb310, 9, none⟩ (.slice Ao30 t297.length co30)).setCell ⟨gb311, 0, none⟩ (.string t300)).setCell ⟨gb311, 1, none⟩ (.string t301)).setCell ⟨gb311, 2, none⟩ (.string t302)).setCell ⟨gb311, 3, none⟩ (.string t303)).setCell ⟨gb311, 4, none⟩ (.string t304)).setCell ⟨gb311, 5, none⟩ (.string t305)).setCell ⟨gb311, 6, none⟩ (.string t306)).setCell ⟨gb311, 7, none⟩ (.bool t307)).setCell ⟨gb311, 8, none⟩ (.bool t308)).setCell ⟨gb311, 9, none⟩ (.int .i64 t309)).heap[gb310]? = some (.cells #[.string t288, .string t289, .string t290, .string t291, .string t292, .string t293, .string t294, .bool t295, .bool t296, .slice Ao30 t297.length co30] 25 (0, 0))) := ⟨by (with_reducible repeat (first | refine blk_drewN ?_ _ | refine blk_drew ?_ | refine blk_alloc ?_ _)); refine blk_far ?_ NB310_311.out _; (with_reducible repeat (first | refine blk_drewN ?_ _ | refine blk_drew ?_ | refine blk_alloc ?_ _)); refine blk_far ?_ NB310_311.out _; (with_reducible repeat (first | refine blk_drewN ?_ _ | refine blk_drew ?_ | refine blk_alloc ?_ _)); refine blk_far ?_ NB310_311.out _; (with_reducible repeat (first | refine blk_drewN ?_ _ | refine blk_drew ?_ | refine blk_alloc ?_ _)); refine blk_far ?_ NB310_311.out _; (with_reducible repeat (first | refine blk_drewN ?_ _ | refine blk_drew ?_ | refine blk_alloc ?_ _)); refine blk_far ?_ NB310_311.out _; (with_reducible repeat (first | refine blk_drewN ?_ _ | refine blk_drew ?_ | refine blk_alloc ?_ _)); refine blk_far ?_ NB310_311.out _; (with_reducible repeat (first | refine blk_drewN ?_ _ | refine blk_drew ?_ | refine blk_alloc ?_ _)); refine blk_far ?_ NB310_311.out _; (with_reducible repeat (first | refine blk_drewN ?_ _ | refine blk_drew ?_ | refine blk_alloc ?_ _)); refine blk_far ?_ NB310_311.out _; (with_reducible repeat (first | refine blk_drewN ?_ _ | refine blk_drew ?_ | refine blk_alloc ?_ _)); refine blk_far ?_ NB310_311.out _; (with_reducible repeat (first | refine blk_drewN ?_ _ | refine blk_drew ?_ | refine blk_alloc ?_ _)); refine blk_far ?_ NB310_311.out _; (with_reducible repeat (first | refine blk_drewN ?_ _ | refine blk_drew ?_ | refine blk_alloc ?_ _)); refine blk_put (cs := #[.string t288, .string t289, .string t290, .string t291, .string t292, .string t293, .string t294, .bool t295, .bool t296, .slice none 0 0]) ?_ 9 _ rfl; (with_reducible repeat (first | refine blk_drewN ?_ _ | refine blk_drew ?_ | refine blk_alloc ?_ _)); refine blk_put (cs := #[.string t288, .string t289, .string t290, .string t291, .string t292, .string t293, .string t294, .bool t295, .bool false, .slice none 0 0]) ?_ 8 _ rfl; (with_reducible repeat (first | refine blk_drewN ?_ _ | refine blk_drew ?_ | refine blk_alloc ?_ _)); refine blk_put (cs := #[.string t288, .string t289, .string t290, .string t291, .string t292, .string t293, .string t294, .bool false, .bool false, .slice none 0 0]) ?_ 7 _ rfl; (with_reducible repeat (first | refine blk_drewN ?_ _ | refine blk_drew ?_ | refine blk_alloc ?_ _)); refine blk_put (cs := #[.string t288, .string t289, .string t290, .string t291, .string t292, .string t293, .string (⟨#[]⟩ : ByteArray), .bool false, .bool false, .slice none 0 0]) ?_ 6 _ rfl; (with_reducible repeat (first | refine blk_drewN ?_ _ | refine blk_drew ?_ | refine blk_alloc ?_ _)); refine blk_put (cs := #[.string t288, .string t289, .string t290, .string t291, .string t292, .string (⟨#[]⟩ : ByteArray), .string (⟨#[]⟩ : ByteArray), .bool false, .bool false, .slice none 0 0]) ?_ 5 _ rfl; (with_reducible repeat (first | refine blk_drewN ?_ _ | refine blk_drew ?_ | refine blk_alloc ?_ _)); refine blk_put (cs := #[.string t288, .string t289, .string t290, .string t291, .string (⟨#[]⟩ : ByteArray), .string (⟨#[]⟩ : ByteArray), .string (⟨#[]⟩ : ByteArray), .bool false, .bool false, .slice none 0 0]) ?_ 4 _ rfl; (with_reducible repeat (first | refine blk_drewN ?_ _ | refine blk_drew ?_ | refine blk_alloc ?_ _)); refine blk_put (cs := #[.string t288, .string t289, .string t290, .string (⟨#[]⟩ : ByteArray), .string (⟨#[]⟩ : ByteArray), .string (⟨#[]⟩ : ByteArray), .string (⟨#[]⟩ : ByteArray), .bool false, .bool false, .slice none 0 0]) ?_ 3 _ rfl; (with_reducible repeat (first | refine blk_drewN ?_ _ | refine blk_drew ?_ | refine blk_alloc ?_ _)); refine blk_put (cs := #[.string t288, .string t289, .string (⟨#[]⟩ : ByteArray), .string (⟨#[]⟩ : ByteArray), .string (⟨#[]⟩ : ByteArray), .string (⟨#[]⟩ : ByteArray), .string (⟨#[]⟩ : ByteArray), .bool false, .bool false, .slice none 0 0]) ?_ 2 _ rfl; (with_reducible repeat (first | refine blk_drewN ?_ _ | refine blk_drew ?_ | refine blk_alloc ?_ _)); refine blk_put (cs := #[.string t288, .string (⟨#[]⟩ : ByteArray), .string (⟨#[]⟩ : ByteArray), .string (⟨#[]⟩ : ByteArray), .string (⟨#[]⟩ : ByteArray), .string (⟨#[]⟩ : ByteArray), .string (⟨#[]⟩ : ByteArray), .bool false, .bool false, .slice none 0 0]) ?_ 1 _ rfl; (with_reducible repeat (first | refine blk_drewN ?_ _ | refine blk_drew ?_ | refine blk_alloc ?_ _)); refine blk_put (cs := #[.string (⟨#[]⟩ : ByteArray), .string (⟨#[]⟩ : ByteArray), .string (⟨#[]⟩ : ByteArray), .string (⟨#[]⟩ : ByteArray), .string (⟨#[]⟩ : ByteArray), .string (⟨#[]⟩ : ByteArray), .string (⟨#[]⟩ : ByteArray), .bool false, .bool false, .slice none 0 0]) ?_ 0 _ rfl; (with_reducible repeat (first | refine blk_drewN ?_ _ | refine blk_drew ?_ | refine blk_alloc ?_ _)); exact BK310.out⟩
          have n3_ : Aside0 (((((((((((((((((((((w26.setCell ⟨gb310, 0, none⟩ (.string t288)).setCell ⟨gb310, 1, none⟩ (.string t289)).setCell ⟨gb310, 2, none⟩ (.string t290)).setCell ⟨gb310, 3, none⟩ (.string t291)).setCell ⟨gb310, 4, none⟩ (.string t292)).setCell ⟨gb310, 5, none⟩ (.string t293)).setCell ⟨gb310, 6, none⟩ (.string t294)).setCell ⟨gb310, 7, none⟩ (.bool t295)).setCell ⟨gb310, 8, none⟩ (.bool t296)).setCell ⟨gb310, 9, none⟩ (.slice Ao30 t297.length co30)).setCell ⟨gb311, 0, none⟩ (.string t300)).setCell ⟨gb311, 1, none⟩ (.string t301)).setCell ⟨gb311, 2, none⟩ (.string t302)).setCell ⟨gb311, 3, none⟩ (.string t303)).setCell ⟨gb311, 4, none⟩ (.string t304)).setCell ⟨gb311, 5, none⟩ (.string t305)).setCell ⟨gb311, 6, none⟩ (.string t306)).setCell ⟨gb311, 7, none⟩ (.bool t307)).setCell ⟨gb311, 8, none⟩ (.bool t308)).setCell ⟨gb311, 9, none⟩ (.int .i64 t309)).heap[gb311]? = some (.cells #[.string t300, .string t301, .string t302, .string t303, .string t304, .string t305, .string t306, .bool t307, .bool t308, .int .i64 t309] 27 (0, 0))) := ⟨by (with_reducible repeat (first | refine blk_drewN ?_ _ | refine blk_drew ?_ | refine blk_alloc ?_ _)); refine blk_put (cs := #[.string t300, .string t301, .string t302, .string t303, .string t304, .string t305, .string t306, .bool t307, .bool t308, .int .i64 0]) ?_ 9 _ rfl; (with_reducible repeat (first | refine blk_drewN ?_ _ | refine blk_drew ?_ | refine blk_alloc ?_ _)); refine blk_put (cs := #[.string t300, .string t301, .string t302, .string t303, .string t304, .string t305, .string t306, .bool t307, .bool false, .int .i64 0]) ?_ 8 _ rfl; (with_reducible repeat (first | refine blk_drewN ?_ _ | refine blk_drew ?_ | refine blk_alloc ?_ _)); refine blk_put (cs := #[.string t300, .string t301, .string t302, .string t303, .string t304, .string t305, .string t306, .bool false, .bool false, .int .i64 0]) ?_ 7 _ rfl; (with_reducible repeat (first | refine blk_drewN ?_ _ | refine blk_drew ?_ | refine blk_alloc ?_ _)); refine blk_put (cs := #[.string t300, .string t301, .string t302, .string t303, .string t304, .string t305, .string (⟨#[]⟩ : ByteArray), .bool false, .bool false, .int .i64 0]) ?_ 6 _ rfl; (with_reducible repeat (first | refine blk_drewN ?_ _ | refine blk_drew ?_ | refine blk_alloc ?_ _)); refine blk_put (cs := #[.string t300, .string t301, .string t302, .string t303, .string t304, .string (⟨#[]⟩ : ByteArray), .string (⟨#[]⟩ : ByteArray), .bool false, .bool false, .int .i64 0]) ?_ 5 _ rfl; (with_reducible repeat (first | refine blk_drewN ?_ _ | refine blk_drew ?_ | refine blk_alloc ?_ _)); refine blk_put (cs := #[.string t300, .string t301, .string t302, .string t303, .string (⟨#[]⟩ : ByteArray), .string (⟨#[]⟩ : ByteArray), .string (⟨#[]⟩ : ByteArray), .bool false, .bool false, .int .i64 0]) ?_ 4 _ rfl; (with_reducible repeat (first | refine blk_drewN ?_ _ | refine blk_drew ?_ | refine blk_alloc ?_ _)); refine blk_put (cs := #[.string t300, .string t301, .string t302, .string (⟨#[]⟩ : ByteArray), .string (⟨#[]⟩ : ByteArray), .string (⟨#[]⟩ : ByteArray), .string (⟨#[]⟩ : ByteArray), .bool false, .bool false, .int .i64 0]) ?_ 3 _ rfl; (with_reducible repeat (first | refine blk_drewN ?_ _ | refine blk_drew ?_ | refine blk_alloc ?_ _)); refine blk_put (cs := #[.string t300, .string t301, .string (⟨#[]⟩ : ByteArray), .string (⟨#[]⟩ : ByteArray), .string (⟨#[]⟩ : ByteArray), .string (⟨#[]⟩ : ByteArray), .string (⟨#[]⟩ : ByteArray), .bool false, .bool false, .int .i64 0]) ?_ 2 _ rfl; (with_reducible repeat (first | refine blk_drewN ?_ _ | refine blk_drew ?_ | refine blk_alloc ?_ _)); refine blk_put (cs := #[.string t300, .string (⟨#[]⟩ : ByteArray), .string (⟨#[]⟩ : ByteArray), .string (⟨#[]⟩ : ByteArray), .string (⟨#[]⟩ : ByteArray), .string (⟨#[]⟩ : ByteArray), .string (⟨#[]⟩ : ByteArray), .bool false, .bool false, .int .i64 0]) ?_ 1 _ rfl; (with_reducible repeat (first | refine blk_drewN ?_ _ | refine blk_drew ?_ | refine blk_alloc ?_ _)); refine blk_put (cs := #[.string (⟨#[]⟩ : ByteArray), .string (⟨#[]⟩ : ByteArray), .string (⟨#[]⟩ : ByteArray), .string (⟨#[]⟩ : ByteArray), .string (⟨#[]⟩ : ByteArray), .string (⟨#[]⟩ : ByteArray), .string (⟨#[]⟩ : ByteArray), .bool false, .bool false, .int .i64 0]) ?_ 0 _ rfl; (with_reducible repeat (first | refine blk_drewN ?_ _ | refine blk_drew ?_ | refine blk_alloc ?_ _)); refine blk_far ?_ NB311_310.out _; (with_reducible repeat (first | refine blk_drewN ?_ _ | refine blk_drew ?_ | refine blk_alloc ?_ _)); refine blk_far ?_ NB311_310.out _; (with_reducible repeat (first | refine blk_drewN ?_ _ | refine blk_drew ?_ | refine blk_alloc ?_ _)); refine blk_far ?_ NB311_310.out _; (with_reducible repeat (first | refine blk_drewN ?_ _ | refine blk_drew ?_ | refine blk_alloc ?_ _)); refine blk_far ?_ NB311_310.out _; (with_reducible repeat (first | refine blk_drewN ?_ _ | refine blk_drew ?_ | refine blk_alloc ?_ _)); refine blk_far ?_ NB311_310.out _; (with_reducible repeat (first | refine blk_drewN ?_ _ | refine blk_drew ?_ | refine blk_alloc ?_ _)); refine blk_far ?_ NB311_310.out _; (with_reducible repeat (first | refine blk_drewN ?_ _ | refine blk_drew ?_ | refine blk_alloc ?_ _)); refine blk_far ?_ NB311_310.out _; (with_reducible repeat (first | refine blk_drewN ?_ _ | refine blk_drew ?_ | refine blk_alloc ?_ _)); refine blk_far ?_ NB311_310.out _; (with_reducible repeat (first | refine blk_drewN ?_ _ | refine blk_drew ?_ | refine blk_alloc ?_ _)); refine blk_far ?_ NB311_310.out _; (with_reducible repeat (first | refine blk_drewN ?_ _ | refine blk_drew ?_ | refine blk_alloc ?_ _)); refine blk_far ?_ NB311_310.out _; (with_reducible repeat (first | refine blk_drewN ?_ _ | refine blk_drew ?_ | refine blk_alloc ?_ _)); exact BK311.out⟩
          have n4_ : Aside0 (Below w.heap.size w ((((((((((((((((((((w26.setCell ⟨gb310, 0, none⟩ (.string t288)).setCell ⟨gb310, 1, none⟩ (.string t289)).setCell ⟨gb310, 2, none⟩ (.string t290)).setCell ⟨gb310, 3, none⟩ (.string t291)).setCell ⟨gb310, 4, none⟩ (.string t292)).setCell ⟨gb310, 5, none⟩ (.string t293)).setCell ⟨gb310, 6, none⟩ (.string t294)).setCell ⟨gb310, 7, none⟩ (.bool t295)).setCell ⟨gb310, 8, none⟩ (.bool t296)).setCell ⟨gb310, 9, none⟩ (.slice Ao30 t297.length co30)).setCell ⟨gb311, 0, none⟩ (.string t300)).setCell ⟨gb311, 1, none⟩ (.string t301)).setCell ⟨gb311, 2, none⟩ (.string t302)).setCell ⟨gb311, 3, none⟩ (.string t303)).setCell ⟨gb311, 4, none⟩ (.string t304)).setCell ⟨gb311, 5, none⟩ (.string t305)).setCell ⟨gb311, 6, none⟩ (.string t306)).setCell ⟨gb311, 7, none⟩ (.bool t307)).setCell ⟨gb311, 8, none⟩ (.bool t308)).setCell ⟨gb311, 9, none⟩ (.int .i64 t309))) := ⟨by repeat (first | (with_reducible first | exact HB.out | apply below_alloc | apply pw_below_drewN | apply below_drew1 | refine below_set ?_ GE286.out | refine below_set ?_ GE310.out | refine below_set ?_ GE311.out) | exact HB.out)⟩
          (try clear HO299)
          (try clear BK286)
          (try clear BK310)
          (try clear BK311)
          (try clear HB)
          generalize ((((((((((((((((((((w26.setCell ⟨gb310, 0, none⟩ (.string t288)).setCell ⟨gb310, 1, none⟩ (.string t289)).setCell ⟨gb310, 2, none⟩ (.string t290)).setCell ⟨gb310, 3, none⟩ (.string t291)).setCell ⟨gb310, 4, none⟩ (.string t292)).setCell ⟨gb310, 5, none⟩ (.string t293)).setCell ⟨gb310, 6, none⟩ (.string t294)).setCell ⟨gb310, 7, none⟩ (.bool t295)).setCell ⟨gb310, 8, none⟩ (.bool t296)).setCell ⟨gb310, 9, none⟩ (.slice Ao30 t297.length co30)).setCell ⟨gb311, 0, none⟩ (.string t300)).setCell ⟨gb311, 1, none⟩ (.string t301)).setCell ⟨gb311, 2, none⟩ (.string t302)).setCell ⟨gb311, 3, none⟩ (.string t303)).setCell ⟨gb311, 4, none⟩ (.string t304)).setCell ⟨gb311, 5, none⟩ (.string t305)).setCell ⟨gb311, 6, none⟩ (.string t306)).setCell ⟨gb311, 7, none⟩ (.bool t307)).setCell ⟨gb311, 8, none⟩ (.bool t308)).setCell ⟨gb311, 9, none⟩ (.int .i64 t309)) = w33 at n0_ n1_ n2_ n3_ n4_ ⊢
          have HO299 := n0_
          have BK286 := n1_
          have BK310 := n2_
          have BK311 := n3_
          have HB := n4_
          clear n0_ n1_ n2_ n3_ n4_
          have n0_ := Aside0.mk (Kd.R_drew HO299.out)
          have n1_ := Aside0.mk (blk_drew BK286.out)
          have n2_ := Aside0.mk (blk_drew BK310.out)
          have n3_ := Aside0.mk (blk_drew BK311.out)
          have n4_ := Aside0.mk (below_drew1 HB.out)
          clear HO299
          clear BK286
          clear BK310
          clear BK311
          clear HB
          have HO299 := n0_
          have BK286 := n1_
          have BK310 := n2_
          have BK311 := n3_
          have HB := n4_
          clear n0_ n1_ n2_ n3_ n4_
          refine start_ (n := 19) (S := fun w' => w'.cell? ⟨gb310, 0, none⟩ = some (.string t288) ∧ w'.cell? ⟨gb310, 1, none⟩ = some (.string t289) ∧ w'.cell? ⟨gb310, 2, none⟩ = some (.string t290) ∧ w'.cell? ⟨gb310, 3, none⟩ = some (.string t291) ∧ w'.cell? ⟨gb310, 4, none⟩ = some (.string t292) ∧ w'.cell? ⟨gb310, 5, none⟩ = some (.string t293) ∧ w'.cell? ⟨gb310, 6, none⟩ = some (.string t294) ∧ w'.cell? ⟨gb310, 7, none⟩ = some (.bool t295) ∧ w'.cell? ⟨gb310, 8, none⟩ = some (.bool t296) ∧ w'.cell? ⟨gb310, 9, none⟩ = some (.slice Ao30 t297.length co30) ∧ w'.cell? ⟨gb286, 0, none⟩ = some (.bool a1_0) ∧ w'.cell? ⟨gb286, 1, none⟩ = some (.string a1_1) ∧ w'.cell? ⟨gb286, 2, none⟩ = some (.int .i64 a1_2) ∧ w'.cell? ⟨gb311, 0, none⟩ = some (.string t300) ∧ w'.cell? ⟨gb311, 1, none⟩ = some (.string t301) ∧ w'.cell? ⟨gb311, 2, none⟩ = some (.string t302) ∧ w'.cell? ⟨gb311, 3, none⟩ = some (.string t303) ∧ w'.cell? ⟨gb311, 4, none⟩ = some (.string t304) ∧ w'.cell? ⟨gb311, 5, none⟩ = some (.string t305) ∧ w'.cell? ⟨gb311, 6, none⟩ = some (.string t306) ∧ w'.cell? ⟨gb311, 7, none⟩ = some (.bool t307) ∧ w'.cell? ⟨gb311, 8, none⟩ = some (.bool t308) ∧ w'.cell? ⟨gb311, 9, none⟩ = some (.int .i64 t309)) (ds := []) #[false, false, false, false, false, false, false, false, false, false, false, false, false, false, false, false, false, false, false] (by kernel_rfl) rfl rfl ⟨(blk_cell BK310.out 0).trans rfl, (blk_cell BK310.out 1).trans rfl, (blk_cell BK310.out 2).trans rfl, (blk_cell BK310.out 3).trans rfl, (blk_cell BK310.out 4).trans rfl, (blk_cell BK310.out 5).trans rfl, (blk_cell BK310.out 6).trans rfl, (blk_cell BK310.out 7).trans rfl, (blk_cell BK310.out 8).trans rfl, (blk_cell BK310.out 9).trans rfl, (blk_cell BK286.out 0).trans rfl, (blk_cell BK286.out 1).trans rfl, (blk_cell BK286.out 2).trans rfl, (blk_cell BK311.out 0).trans rfl, (blk_cell BK311.out 1).trans rfl, (blk_cell BK311.out 2).trans rfl, (blk_cell BK311.out 3).trans rfl, (blk_cell BK311.out 4).trans rfl, (blk_cell BK311.out 5).trans rfl, (blk_cell BK311.out 6).trans rfl, (blk_cell BK311.out 7).trans rfl, (blk_cell BK311.out 8).trans rfl, (blk_cell BK311.out 9).trans rfl⟩ (fun hHeld => ?_); refine with_tabW tabardlaw11_LocaleWrites.tab5 tabardlaw11_LocaleWrites.bits5 (fun HT_ HW_ => ?_)
          generalize w33.drew = w34 at HO299 BK286 BK310 BK311 HB hHeld ⊢
          refine pure_ (i := 2) (N := some 34) (v := ?_) (a' := ?_) #[false, false, true, false, false, false, false, false, false, false, false, false, false, false, false, false, false, false, false] rfl rfl (any_of HT_.out (by kernel_rfl)) (fun _ _ _ h => h) (Or.inl ⟨by rfl, ?_⟩) ?_ ?_
          rotate_left
          · intro w'
            go_simp
            with_reducible rfl
          rotate_left
          · simp only [Act.put, List.setIfInBounds_toArray, List.set_cons_zero, List.set_cons_succ, i64_w, i32_w]
            rfl
          refine pure_ (i := 6) (N := some 38) (v := ?_) (a' := ?_) #[false, false, true, false, false, false, true, false, false, false, false, false, false, false, false, false, false, false, false] rfl rfl (any_of HT_.out (by kernel_rfl)) (fun _ _ _ h => h) (Or.inl ⟨by rfl, ?_⟩) ?_ ?_
          rotate_left
          · intro w'
            go_simp
            with_reducible rfl
          rotate_left
          · simp only [Act.put, List.setIfInBounds_toArray, List.set_cons_zero, List.set_cons_succ, i64_w, i32_w]
            rfl
          refine take_ (i := 0) (N := some 32) (v := ?_) (a' := ?_) #[true, false, true, false, false, false, true, false, false, false, false, false, false, false, false, false, false, false, false] rfl rfl (take_ofW HT_.out HW_.out (by kernel_rfl)) (fun _ _ _ h => h) (Or.inl ⟨by rfl, ?_⟩) hHeld ?_ ?_
          rotate_left
          · rintro w' ⟨s0, s1, s2, s3, s4, s5, s6, s7, s8, s9, s10, s11, s12, s13, s14, s15, s16, s17, s18, s19, s20, s21, s22⟩
            go_simp
            with_reducible rfl
          rotate_left
          · simp only [Act.put, List.setIfInBounds_toArray, List.set_cons_zero, List.set_cons_succ, i64_w, i32_w]
            rfl
          refine take_ (i := 1) (N := some 33) (v := ?_) (a' := ?_) #[true, true, true, false, false, false, true, false, false, false, false, false, false, false, false, false, false, false, false] rfl rfl (take_ofW HT_.out HW_.out (by kernel_rfl)) (fun _ _ _ h => h) (Or.inl ⟨by rfl, ?_⟩) hHeld ?_ ?_
          rotate_left
          · rintro w' ⟨s0, s1, s2, s3, s4, s5, s6, s7, s8, s9, s10, s11, s12, s13, s14, s15, s16, s17, s18, s19, s20, s21, s22⟩
            go_simp
            with_reducible rfl
          rotate_left
          · simp only [Act.put, List.setIfInBounds_toArray, List.set_cons_zero, List.set_cons_succ, i64_w, i32_w]
            rfl
          refine take_ (i := 4) (N := some 36) (v := ?_) (a' := ?_) #[true, true, true, false, true, false, true, false, false, false, false, false, false, false, false, false, false, false, false] rfl rfl (take_ofW HT_.out HW_.out (by kernel_rfl)) (fun _ _ _ h => h) (Or.inl ⟨by rfl, ?_⟩) hHeld ?_ ?_
          rotate_left
          · rintro w' ⟨s0, s1, s2, s3, s4, s5, s6, s7, s8, s9, s10, s11, s12, s13, s14, s15, s16, s17, s18, s19, s20, s21, s22⟩
            go_simp
            with_reducible rfl
          rotate_left
          · simp only [Act.put, List.setIfInBounds_toArray, List.set_cons_zero, List.set_cons_succ, i64_w, i32_w]
            rfl
          refine take_ (i := 5) (N := some 37) (v := ?_) (a' := ?_) #[true, true, true, false, true, true, true, false, false, false, false, false, false, false, false, false, false, false, false] rfl rfl (take_ofW HT_.out HW_.out (by kernel_rfl)) (fun _ _ _ h => h) (Or.inl ⟨by rfl, ?_⟩) hHeld ?_ ?_
          rotate_left
          · rintro w' ⟨s0, s1, s2, s3, s4, s5, s6, s7, s8, s9, s10, s11, s12, s13, s14, s15, s16, s17, s18, s19, s20, s21, s22⟩
            go_simp
            with_reducible rfl
          rotate_left
          · simp only [Act.put, List.setIfInBounds_toArray, List.set_cons_zero, List.set_cons_succ, i64_w, i32_w]
            rfl
          refine one_ (i := 3) (N := some 35) #[true, true, true, true, true, true, true, false, false, false, false, false, false, false, false, false, false, false, false] rfl rfl (one_of HT_.out (by kernel_rfl)) (by decide) (fun K hK => ?_)
          refine goes_ Tryd.func17 (by kernel_rfl) rfl #[.agg #[.string t288, .string t289, .string t290, .string t291, .string t292, .string t293, .string t294, .bool t295, .bool t296, .slice Ao30 t297.length co30], .agg #[.bool a1_0, .string a1_1, .int .i64 a1_2], .bool a2] (by rfl) rfl rfl (by (try simp only [List.map_toArray, List.map_cons, List.map_nil]); first | done | rfl | (simp only [List.length_drop, List.length_take]; rfl)) ?_
          with_reducible refine (locale_Locale_Write.calls k t288 t289 t290 t291 t292 t293 t294 t295 t296 _ _ t297 a1_0 a1_1 a1_2 a2 t312 _ ?side1 ?side2 A16.out).mono ?_
          (case side1 => repeat (first | exact (Kd.R_reads' HO299.out).2.2 | (with_reducible refine Kd.C_alloc ?_ _) | (with_reducible refine Kd.C_drewN ?_ _) | (with_reducible refine Kd.C_drew ?_)))
          (case side2 => exact (Kd.R_reads' HO299.out).2.1)
          rintro e w35 ⟨rfl, hb⟩
          refine ⟨_, rfl, ?_⟩
          have n0_ := Aside0.mk (Kd.R_below (by (with_reducible repeat (first | apply Kd.R_alloc | apply Kd.R_drewN | apply Kd.R_drew)); exact HO299.out) hb)
          have n1_ := Aside0.mk (blk_below (g := gb286) (o := .cells #[.bool a1_0, .string a1_1, .int .i64 a1_2] 36 (0, 0)) (by (with_reducible repeat (first | refine blk_drewN ?_ _ | refine blk_drew ?_ | refine blk_alloc ?_ _)); exact BK286.out) hb)
          have n2_ := Aside0.mk (blk_below (g := gb310) (o := .cells #[.string t288, .string t289, .string t290, .string t291, .string t292, .string t293, .string t294, .bool t295, .bool t296, .slice Ao30 t297.length co30] 25 (0, 0)) (by (with_reducible repeat (first | refine blk_drewN ?_ _ | refine blk_drew ?_ | refine blk_alloc ?_ _)); exact BK310.out) hb)
          have n3_ := Aside0.mk (blk_below (g := gb311) (o := .cells #[.string t300, .string t301, .string t302, .string t303, .string t304, .string t305, .string t306, .bool t307, .bool t308, .int .i64 t309] 27 (0, 0)) (by (with_reducible repeat (first | refine blk_drewN ?_ _ | refine blk_drew ?_ | refine blk_alloc ?_ _)); exact BK311.out) hb)
          have n4_ := Aside0.mk (below_step (by repeat (first | (with_reducible first | exact HB.out | apply below_alloc | apply pw_below_drewN | apply below_drew1 | refine below_set ?_ GE286.out | refine below_set ?_ GE310.out | refine below_set ?_ GE311.out) | exact HB.out)) hb)
          clear HO299
          clear BK286
          clear BK310
          clear BK311
          clear HB
          have HO299 := n0_
          have BK286 := n1_
          have BK310 := n2_
          have BK311 := n3_
          have HB := n4_
          clear n0_ n1_ n2_ n3_ n4_
          (try clear hb)
          (try clear hb2)
          (try clear hk)
          (try clear hi)
          refine hK.out _ _ ⟨(blk_cell BK310.out 0).trans rfl, (blk_cell BK310.out 1).trans rfl, (blk_cell BK310.out 2).trans rfl, (blk_cell BK310.out 3).trans rfl, (blk_cell BK310.out 4).trans rfl, (blk_cell BK310.out 5).trans rfl, (blk_cell BK310.out 6).trans rfl, (blk_cell BK310.out 7).trans rfl, (blk_cell BK310.out 8).trans rfl, (blk_cell BK310.out 9).trans rfl, (blk_cell BK286.out 0).trans rfl, (blk_cell BK286.out 1).trans rfl, (blk_cell BK286.out 2).trans rfl, (blk_cell BK311.out 0).trans rfl, (blk_cell BK311.out 1).trans rfl, (blk_cell BK311.out 2).trans rfl, (blk_cell BK311.out 3).trans rfl, (blk_cell BK311.out 4).trans rfl, (blk_cell BK311.out 5).trans rfl, (blk_cell BK311.out 6).trans rfl, (blk_cell BK311.out 7).trans rfl, (blk_cell BK311.out 8).trans rfl, (blk_cell BK311.out 9).trans rfl⟩ (fun hHeld => ?_)
          clear hK K
          refine norm_ (a' := ?_) ?_ ?_
          rotate_left
          · show Act.put _ (some 35) _ = _
            simp only [Act.put, List.setIfInBounds_toArray, List.set_cons_zero, List.set_cons_succ, i64_w, i32_w]
            rfl
          refine one_ (i := 7) (N := some 39) #[true, true, true, true, true, true, true, true, false, false, false, false, false, false, false, false, false, false, false] rfl rfl (one_of HT_.out (by kernel_rfl)) (by decide) (fun K hK => ?_)
          refine goes_ Tryd.func18 (by kernel_rfl) rfl #[.agg #[.string t300, .string t301, .string t302, .string t303, .string t304, .string t305, .string t306, .bool t307, .bool t308, .int .i64 t309], .agg #[.bool a1_0, .string a1_1, .int .i64 a1_2], .bool a2] (by rfl) rfl rfl (by (try simp only [List.map_toArray, List.map_cons, List.map_nil]); first | done | rfl | (simp only [List.length_drop, List.length_take]; rfl)) ?_
          with_reducible refine (tabardref11_Locale_Write.calls k t300 t301 t302 t303 t304 t305 t306 t307 t308 t309 a1_0 a1_1 a1_2 a2 t313 _ A17.out).mono ?_
          rintro e w36 ⟨rfl, hb⟩
          refine ⟨_, rfl, ?_⟩
          have n0_ := Aside0.mk (Kd.R_below (by (with_reducible repeat (first | apply Kd.R_alloc | apply Kd.R_drewN | apply Kd.R_drew)); exact HO299.out) hb)
          have n1_ := Aside0.mk (blk_below (g := gb286) (o := .cells #[.bool a1_0, .string a1_1, .int .i64 a1_2] 36 (0, 0)) (by (with_reducible repeat (first | refine blk_drewN ?_ _ | refine blk_drew ?_ | refine blk_alloc ?_ _)); exact BK286.out) hb)
          have n2_ := Aside0.mk (blk_below (g := gb310) (o := .cells #[.string t288, .string t289, .string t290, .string t291, .string t292, .string t293, .string t294, .bool t295, .bool t296, .slice Ao30 t297.length co30] 25 (0, 0)) (by (with_reducible repeat (first | refine blk_drewN ?_ _ | refine blk_drew ?_ | refine blk_alloc ?_ _)); exact BK310.out) hb)
          have n3_ := Aside0.mk (blk_below (g := gb311) (o := .cells #[.string t300, .string t301, .string t302, .string t303, .string t304, .string t305, .string t306, .bool t307, .bool t308, .int .i64 t309] 27 (0, 0)) (by (with_reducible repeat (first | refine blk_drewN ?_ _ | refine blk_drew ?_ | refine blk_alloc ?_ _)); exact BK311.out) hb)
          have n4_ := Aside0.mk (below_step (by repeat (first | (with_reducible first | exact HB.out | apply below_alloc | apply pw_below_drewN | apply below_drew1 | refine below_set ?_ GE286.out | refine below_set ?_ GE310.out | refine below_set ?_ GE311.out) | exact HB.out)) hb)
          clear HO299
          clear BK286
          clear BK310
          clear BK311
          clear HB
          have HO299 := n0_
          have BK286 := n1_
          have BK310 := n2_
          have BK311 := n3_
          have HB := n4_
          clear n0_ n1_ n2_ n3_ n4_
          (try clear hb)
          (try clear hb2)
          (try clear hk)
          (try clear hi)
          refine hK.out _ _ ⟨(blk_cell BK310.out 0).trans rfl, (blk_cell BK310.out 1).trans rfl, (blk_cell BK310.out 2).trans rfl, (blk_cell BK310.out 3).trans rfl, (blk_cell BK310.out 4).trans rfl, (blk_cell BK310.out 5).trans rfl, (blk_cell BK310.out 6).trans rfl, (blk_cell BK310.out 7).trans rfl, (blk_cell BK310.out 8).trans rfl, (blk_cell BK310.out 9).trans rfl, (blk_cell BK286.out 0).trans rfl, (blk_cell BK286.out 1).trans rfl, (blk_cell BK286.out 2).trans rfl, (blk_cell BK311.out 0).trans rfl, (blk_cell BK311.out 1).trans rfl, (blk_cell BK311.out 2).trans rfl, (blk_cell BK311.out 3).trans rfl, (blk_cell BK311.out 4).trans rfl, (blk_cell BK311.out 5).trans rfl, (blk_cell BK311.out 6).trans rfl, (blk_cell BK311.out 7).trans rfl, (blk_cell BK311.out 8).trans rfl, (blk_cell BK311.out 9).trans rfl⟩ (fun hHeld => ?_)
          clear hK K
          refine norm_ (a' := ?_) ?_ ?_
          rotate_left
          · show Act.put _ (some 39) _ = _
            simp only [Act.put, List.setIfInBounds_toArray, List.set_cons_zero, List.set_cons_succ, i64_w, i32_w]
            rfl
          refine pure_ (i := 8) (N := some 40) (v := ?_) (a' := ?_) #[true, true, true, true, true, true, true, true, true, false, false, false, false, false, false, false, false, false, false] rfl rfl (any_of HT_.out (by kernel_rfl)) (fun _ _ _ h => h) (Or.inl ⟨by rfl, ?_⟩) ?_ ?_
          rotate_left
          · intro w'
            go_simp
            with_reducible rfl
          rotate_left
          · simp only [Act.put, List.setIfInBounds_toArray, List.set_cons_zero, List.set_cons_succ, i64_w, i32_w]
            rfl
          refine pure_ (i := 9) (N := some 41) (v := ?_) (a' := ?_) #[true, true, true, true, true, true, true, true, true, true, false, false, false, false, false, false, false, false, false] rfl rfl (any_of HT_.out (by kernel_rfl)) (fun _ _ _ h => h) (Or.inl ⟨by rfl, ?_⟩) ?_ ?_
          rotate_left
          · intro w'
            go_simp
            with_reducible rfl
          rotate_left
          · simp only [Act.put, List.setIfInBounds_toArray, List.set_cons_zero, List.set_cons_succ, i64_w, i32_w]
            rfl
          refine pure_ (i := 11) (N := some 43) (v := ?_) (a' := ?_) #[true, true, true, true, true, true, true, true, true, true, false, true, false, false, false, false, false, false, false] rfl rfl (any_of HT_.out (by kernel_rfl)) (fun _ _ _ h => h) (Or.inl ⟨by rfl, ?_⟩) ?_ ?_
          rotate_left
          · intro w'
            go_simp
            with_reducible rfl
          rotate_left
          · simp only [Act.put, List.setIfInBounds_toArray, List.set_cons_zero, List.set_cons_succ, i64_w, i32_w]
            rfl
          refine pure_ (i := 14) (N := some 46) (v := ?_) (a' := ?_) #[true, true, true, true, true, true, true, true, true, true, false, true, false, false, true, false, false, false, false] rfl rfl (any_of HT_.out (by kernel_rfl)) (fun _ _ _ h => h) (Or.inl ⟨by rfl, ?_⟩) ?_ ?_
          rotate_left
          · intro w'
            go_simp
            with_reducible rfl
          rotate_left
          · simp only [Act.put, List.setIfInBounds_toArray, List.set_cons_zero, List.set_cons_succ, i64_w, i32_w]
            rfl
          refine take_ (i := 10) (N := some 42) (v := ?_) (a' := ?_) #[true, true, true, true, true, true, true, true, true, true, true, true, false, false, true, false, false, false, false] rfl rfl (take_ofW HT_.out HW_.out (by kernel_rfl)) (fun _ _ _ h => h) (Or.inl ⟨by rfl, ?_⟩) hHeld ?_ ?_
          rotate_left
          · rintro w' ⟨s0, s1, s2, s3, s4, s5, s6, s7, s8, s9, s10, s11, s12, s13, s14, s15, s16, s17, s18, s19, s20, s21, s22⟩
            go_simp
            with_reducible rfl
          rotate_left
          · simp only [Act.put, List.setIfInBounds_toArray, List.set_cons_zero, List.set_cons_succ, i64_w, i32_w]
            rfl
          refine take_ (i := 13) (N := some 45) (v := ?_) (a' := ?_) #[true, true, true, true, true, true, true, true, true, true, true, true, false, true, true, false, false, false, false] rfl rfl (take_ofW HT_.out HW_.out (by kernel_rfl)) (fun _ _ _ h => h) (Or.inl ⟨by rfl, ?_⟩) hHeld ?_ ?_
          rotate_left
          · rintro w' ⟨s0, s1, s2, s3, s4, s5, s6, s7, s8, s9, s10, s11, s12, s13, s14, s15, s16, s17, s18, s19, s20, s21, s22⟩
            go_simp
            with_reducible rfl
          rotate_left
          · simp only [Act.put, List.setIfInBounds_toArray, List.set_cons_zero, List.set_cons_succ, i64_w, i32_w]
            rfl
          refine one_ (i := 12) (N := some 44) #[true, true, true, true, true, true, true, true, true, true, true, true, true, true, true, false, false, false, false] rfl rfl (one_of HT_.out (by kernel_rfl)) (by decide) (fun K hK => ?_)
          refine goes_ Tryd.func19 (by kernel_rfl) rfl #[.agg #[.string t288, .string t289, .string t290, .string t291, .string t292, .string t293, .string t294, .bool t295, .bool t296, .slice Ao30 t297.length co30], .string a3] (by rfl) rfl rfl (by (try simp only [List.map_toArray, List.map_cons, List.map_nil]); first | done | rfl | (simp only [List.length_drop, List.length_take]; rfl)) ?_
          with_reducible refine (locale_Locale_Money.calls t288 t289 t290 t291 t292 t293 t294 t295 t296 _ _ t297 a3 t314 _ ?side1 ?side2 A19.out).mono ?_
          (case side1 => repeat (first | exact (Kd.R_reads' HO299.out).2.2 | (with_reducible refine Kd.C_alloc ?_ _) | (with_reducible refine Kd.C_drewN ?_ _) | (with_reducible refine Kd.C_drew ?_)))
          (case side2 => exact (Kd.R_reads' HO299.out).2.1)
          rintro e w37 ⟨rfl, hb⟩
          refine ⟨_, rfl, ?_⟩
          have n0_ := Aside0.mk (Kd.R_below (by (with_reducible repeat (first | apply Kd.R_alloc | apply Kd.R_drewN | apply Kd.R_drew)); exact HO299.out) hb)
          have n1_ := Aside0.mk (blk_below (g := gb286) (o := .cells #[.bool a1_0, .string a1_1, .int .i64 a1_2] 36 (0, 0)) (by (with_reducible repeat (first | refine blk_drewN ?_ _ | refine blk_drew ?_ | refine blk_alloc ?_ _)); exact BK286.out) hb)
          have n2_ := Aside0.mk (blk_below (g := gb310) (o := .cells #[.string t288, .string t289, .string t290, .string t291, .string t292, .string t293, .string t294, .bool t295, .bool t296, .slice Ao30 t297.length co30] 25 (0, 0)) (by (with_reducible repeat (first | refine blk_drewN ?_ _ | refine blk_drew ?_ | refine blk_alloc ?_ _)); exact BK310.out) hb)
          have n3_ := Aside0.mk (blk_below (g := gb311) (o := .cells #[.string t300, .string t301, .string t302, .string t303, .string t304, .string t305, .string t306, .bool t307, .bool t308, .int .i64 t309] 27 (0, 0)) (by (with_reducible repeat (first | refine blk_drewN ?_ _ | refine blk_drew ?_ | refine blk_alloc ?_ _)); exact BK311.out) hb)
          have n4_ := Aside0.mk (below_step (by repeat (first | (with_reducible first | exact HB.out | apply below_alloc | apply pw_below_drewN | apply below_drew1 | refine below_set ?_ GE286.out | refine below_set ?_ GE310.out | refine below_set ?_ GE311.out) | exact HB.out)) hb)
          clear HO299
          clear BK286
          clear BK310
          clear BK311
          clear HB
          have HO299 := n0_
          have BK286 := n1_
          have BK310 := n2_
          have BK311 := n3_
          have HB := n4_
          clear n0_ n1_ n2_ n3_ n4_
          (try clear hb)
          (try clear hb2)
          (try clear hk)
          (try clear hi)
          refine hK.out _ _ ⟨(blk_cell BK310.out 0).trans rfl, (blk_cell BK310.out 1).trans rfl, (blk_cell BK310.out 2).trans rfl, (blk_cell BK310.out 3).trans rfl, (blk_cell BK310.out 4).trans rfl, (blk_cell BK310.out 5).trans rfl, (blk_cell BK310.out 6).trans rfl, (blk_cell BK310.out 7).trans rfl, (blk_cell BK310.out 8).trans rfl, (blk_cell BK310.out 9).trans rfl, (blk_cell BK286.out 0).trans rfl, (blk_cell BK286.out 1).trans rfl, (blk_cell BK286.out 2).trans rfl, (blk_cell BK311.out 0).trans rfl, (blk_cell BK311.out 1).trans rfl, (blk_cell BK311.out 2).trans rfl, (blk_cell BK311.out 3).trans rfl, (blk_cell BK311.out 4).trans rfl, (blk_cell BK311.out 5).trans rfl, (blk_cell BK311.out 6).trans rfl, (blk_cell BK311.out 7).trans rfl, (blk_cell BK311.out 8).trans rfl, (blk_cell BK311.out 9).trans rfl⟩ (fun hHeld => ?_)
          clear hK K
          refine norm_ (a' := ?_) ?_ ?_
          rotate_left
          · show Act.put _ (some 44) _ = _
            simp only [Act.put, List.setIfInBounds_toArray, List.set_cons_zero, List.set_cons_succ, i64_w, i32_w]
            rfl
          refine one_ (i := 15) (N := some 47) #[true, true, true, true, true, true, true, true, true, true, true, true, true, true, true, true, false, false, false] rfl rfl (one_of HT_.out (by kernel_rfl)) (by decide) (fun K hK => ?_)
          refine goes_ Tryd.func20 (by kernel_rfl) rfl #[.agg #[.string t300, .string t301, .string t302, .string t303, .string t304, .string t305, .string t306, .bool t307, .bool t308, .int .i64 t309], .string a3] (by rfl) rfl rfl (by (try simp only [List.map_toArray, List.map_cons, List.map_nil]); first | done | rfl | (simp only [List.length_drop, List.length_take]; rfl)) ?_
          with_reducible refine (tabardref11_Locale_Money.calls t300 t301 t302 t303 t304 t305 t306 t307 t308 t309 a3 t315 _ A20.out).mono ?_
          rintro e w38 ⟨rfl, hb⟩
          refine ⟨_, rfl, ?_⟩
          have n0_ := Aside0.mk (Kd.R_below (by (with_reducible repeat (first | apply Kd.R_alloc | apply Kd.R_drewN | apply Kd.R_drew)); exact HO299.out) hb)
          have n1_ := Aside0.mk (blk_below (g := gb286) (o := .cells #[.bool a1_0, .string a1_1, .int .i64 a1_2] 36 (0, 0)) (by (with_reducible repeat (first | refine blk_drewN ?_ _ | refine blk_drew ?_ | refine blk_alloc ?_ _)); exact BK286.out) hb)
          have n2_ := Aside0.mk (blk_below (g := gb310) (o := .cells #[.string t288, .string t289, .string t290, .string t291, .string t292, .string t293, .string t294, .bool t295, .bool t296, .slice Ao30 t297.length co30] 25 (0, 0)) (by (with_reducible repeat (first | refine blk_drewN ?_ _ | refine blk_drew ?_ | refine blk_alloc ?_ _)); exact BK310.out) hb)
          have n3_ := Aside0.mk (blk_below (g := gb311) (o := .cells #[.string t300, .string t301, .string t302, .string t303, .string t304, .string t305, .string t306, .bool t307, .bool t308, .int .i64 t309] 27 (0, 0)) (by (with_reducible repeat (first | refine blk_drewN ?_ _ | refine blk_drew ?_ | refine blk_alloc ?_ _)); exact BK311.out) hb)
          have n4_ := Aside0.mk (below_step (by repeat (first | (with_reducible first | exact HB.out | apply below_alloc | apply pw_below_drewN | apply below_drew1 | refine below_set ?_ GE286.out | refine below_set ?_ GE310.out | refine below_set ?_ GE311.out) | exact HB.out)) hb)
          clear HO299
          clear BK286
          clear BK310
          clear BK311
          clear HB
          have HO299 := n0_
          have BK286 := n1_
          have BK310 := n2_
          have BK311 := n3_
          have HB := n4_
          clear n0_ n1_ n2_ n3_ n4_
          (try clear hb)
          (try clear hb2)
          (try clear hk)
          (try clear hi)
          refine hK.out _ _ ⟨(blk_cell BK310.out 0).trans rfl, (blk_cell BK310.out 1).trans rfl, (blk_cell BK310.out 2).trans rfl, (blk_cell BK310.out 3).trans rfl, (blk_cell BK310.out 4).trans rfl, (blk_cell BK310.out 5).trans rfl, (blk_cell BK310.out 6).trans rfl, (blk_cell BK310.out 7).trans rfl, (blk_cell BK310.out 8).trans rfl, (blk_cell BK310.out 9).trans rfl, (blk_cell BK286.out 0).trans rfl, (blk_cell BK286.out 1).trans rfl, (blk_cell BK286.out 2).trans rfl, (blk_cell BK311.out 0).trans rfl, (blk_cell BK311.out 1).trans rfl, (blk_cell BK311.out 2).trans rfl, (blk_cell BK311.out 3).trans rfl, (blk_cell BK311.out 4).trans rfl, (blk_cell BK311.out 5).trans rfl, (blk_cell BK311.out 6).trans rfl, (blk_cell BK311.out 7).trans rfl, (blk_cell BK311.out 8).trans rfl, (blk_cell BK311.out 9).trans rfl⟩ (fun hHeld => ?_)
          clear hK K
          refine norm_ (a' := ?_) ?_ ?_
          rotate_left
          · show Act.put _ (some 47) _ = _
            simp only [Act.put, List.setIfInBounds_toArray, List.set_cons_zero, List.set_cons_succ, i64_w, i32_w]
            rfl
          refine pure_ (i := 16) (N := some 48) (v := ?_) (a' := ?_) #[true, true, true, true, true, true, true, true, true, true, true, true, true, true, true, true, true, false, false] rfl rfl (any_of HT_.out (by kernel_rfl)) (fun _ _ _ h => h) (Or.inl ⟨by rfl, ?_⟩) ?_ ?_
          rotate_left
          · intro w'
            go_simp
            with_reducible rfl
          rotate_left
          · simp only [Act.put, List.setIfInBounds_toArray, List.set_cons_zero, List.set_cons_succ, i64_w, i32_w]
            rfl
          refine pure_ (i := 17) (N := some 49) (v := ?_) (a' := ?_) #[true, true, true, true, true, true, true, true, true, true, true, true, true, true, true, true, true, true, false] rfl rfl (any_of HT_.out (by kernel_rfl)) (fun _ _ _ h => h) (Or.inl ⟨by rfl, ?_⟩) ?_ ?_
          rotate_left
          · intro w'
            go_simp
            with_reducible rfl
          rotate_left
          · simp only [Act.put, List.setIfInBounds_toArray, List.set_cons_zero, List.set_cons_succ, i64_w, i32_w]
            rfl
          refine pure_ (i := 18) (N := some 8) (v := ?_) (a' := ?_) #[true, true, true, true, true, true, true, true, true, true, true, true, true, true, true, true, true, true, true] rfl rfl (any_of HT_.out (by kernel_rfl)) (fun _ _ _ h => h) (Or.inl ⟨by rfl, ?_⟩) ?_ ?_
          rotate_left
          · intro w'
            go_simp
            with_reducible rfl
          rotate_left
          · simp only [Act.put, List.setIfInBounds_toArray, List.set_cons_zero, List.set_cons_succ, i64_w, i32_w]
            rfl
          refine done_ (done_of HT_.out (by kernel_rfl)) ?_
          try go_wp2
          go_ret
          exact ⟨by first | rfl | (simp [errW_none, errW_some] <;> rfl) | (simp [*, errW_none, errW_some] <;> rfl), by repeat (first | (with_reducible first | exact HB.out | apply below_alloc | apply pw_below_drewN | apply below_drew1 | refine below_set ?_ GE286.out | refine below_set ?_ GE310.out | refine below_set ?_ GE311.out) | exact HB.out)⟩
        · rw [if_neg c18] at H
          have c18b0 : (t312.toList == t313.toList) = false := beq_eq_false_iff_ne.mpr c18
          have c18b1 : (t312.toList != t313.toList) = true := bne_iff_ne.mpr c18
          exact absurd H (by simp)
  · replace c6 := Bool.eq_false_iff.mpr c6
    subst c6
    have H1 : (some false) = some r := by rw [if_neg (show ¬ (false = true) by decide)] at H; exact H
    clear H
    have H := H1
    clear H1
    obtain rfl := Option.some.inj H
    go_enter Tryd.func4, Tryd.ntmps4
    go_wp2_with (first | ((with_reducible refine gate_dst (N := 5) rfl ?_); (try (refine gate_guard (by rfl) ?_; dsimp only)); refine box_event ?hg (N := 5) ?hd (cs := #[.bool a1_0, .string a1_1, .int .i64 a1_2]) (t := 36) ?hr ?_; (case hd => rfl); (case hg => rfl); (case hr => first | (go_simp; done) | (go_simp; rfl)); intro gb286 hg w39 hbox hb; have n0_ := Aside0.mk (below_step (by repeat (first | (with_reducible first | exact HB.out | apply below_alloc | apply pw_below_drewN | apply below_drew1) | exact HB.out)) hb); have n1_ := Aside0.mk (hbox); have n2_ := Aside0.mk ((by rw [hg]; exact (below_size (by repeat (first | (with_reducible first | exact HB.out | apply below_alloc | apply pw_below_drewN | apply below_drew1) | exact HB.out))) : w.heap.size ≤ gb286)); have n3_ := Aside0.mk ((by rw [hg]; exact (below_size (by repeat (first | (with_reducible first | exact HB.out | apply below_alloc | apply pw_below_drewN | apply below_drew1) | exact HB.out))) : w.heap.size ≤ gb286)); clear HB; have HB := n0_; have BK286 := n1_; have GW286 := n2_; have GE286 := n3_; clear n0_ n1_ n2_ n3_; clear hb hbox hg) | ((with_reducible refine gate_callee (f := 10) rfl ?_); refine goesL_ (some 12) rfl rfl Tryd.func10 (by kernel_rfl) rfl #[] rfl (by (try simp only [List.map_toArray, List.map_cons, List.map_nil]); first | done | rfl | (simp only [List.length_drop, List.length_take]; rfl)) ?_; (with_reducible refine (tabardlaw11_shown.calls k  false _ ?side1 A5.out).mono ?_); (case side1 => exact GL.below HGL.out (by repeat (first | (with_reducible first | exact HB.out | apply below_alloc | apply pw_below_drewN | apply below_drew1 | refine below_set ?_ GE286.out) | exact HB.out))); rintro e w40 ⟨rfl, hb⟩; refine ⟨_, rfl, ?_⟩; have n0_ := Aside0.mk (blk_below (g := gb286) (o := .cells #[.bool a1_0, .string a1_1, .int .i64 a1_2] 36 (0, 0)) (by (with_reducible repeat (first | refine blk_drewN ?_ _ | refine blk_drew ?_ | refine blk_alloc ?_ _)); exact BK286.out) hb); have n1_ := Aside0.mk (below_step (by repeat (first | (with_reducible first | exact HB.out | apply below_alloc | apply pw_below_drewN | apply below_drew1 | refine below_set ?_ GE286.out) | exact HB.out)) hb); clear BK286; clear HB; have BK286 := n0_; have HB := n1_; clear n0_ n1_; (try clear hb); (try clear hb2); (try clear hk); (try clear hi)))
    go_ret
    exact ⟨by first | rfl | (simp [errW_none, errW_some] <;> rfl) | (simp [*, errW_none, errW_some] <;> rfl), by repeat (first | (with_reducible first | exact HB.out | apply below_alloc | apply pw_below_drewN | apply below_drew1 | refine below_set ?_ GE286.out) | exact HB.out)⟩

end Go.Proofs.YtmbhjogohfcjgaaDoor.L
