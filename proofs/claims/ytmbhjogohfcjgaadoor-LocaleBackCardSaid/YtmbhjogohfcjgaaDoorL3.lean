-- Laid by wip/tools/xprint.py, a program of this session's, over the kit's print. Lean checks it.
import Derived.Test.YtmbhjogohfcjgaaDoorL0
import Derived.Test.YtmbhjogohfcjgaaDoorL2
import Derived.Test.YtmbhjogohfcjgaaDoorLe
namespace Go.Proofs.YtmbhjogohfcjgaaDoor.L
open Go.RowKit Go.Proofs.YtmbhjogohfcjgaaDoorW.PrintWords Go.Proofs.YtmbhjogohfcjgaaDoorW.PrintLast Go.Proofs.YtmbhjogohfcjgaaDoorW.PrintMore
attribute [local go_sem] max2_int min2_int max_two min_two max_three min_three max_four min_four   -- for this text's walks alone
set_option linter.unusedVariables false
set_option linter.unusedSimpArgs false

/-! ### tabardref11_Locale_Plain: function 13 -/
def tabardref11_Locale_Plain.l0 : Nat → ByteArray → List Int → Bool → Int → ByteArray → ByteArray → ByteArray → ByteArray → ByteArray → ByteArray → ByteArray → Bool → Bool → Int → Option (ByteArray × Bool)
  | 0, _, _, _, _, _, _, _, _, _, _, _, _, _, _ => none
  | k + 1, x1, x6, x7, x8, x111000, x111001, x111002, x111003, x111004, x111005, x111006, x111007, x111008, x111009 => if x8 < (x1.size : Int) then (if 0 ≤ x8 then ((tabardref11_digit.f (bt x1 x8)).bind fun t112 => (if t112 = true then (if x6.length < 140737488355328 then (tabardref11_Locale_Plain.l0 k x1 (x6 ++ [bt x1 x8]) x7 (wrap64 (x8 + 1)) x111000 x111001 x111002 x111003 x111004 x111005 x111006 x111007 x111008 x111009) else (none)) else (if (wrap64 (x8 + (x111002.size : Int))) > (x1.size : Int) then (some ((⟨#[]⟩ : ByteArray), false)) else (if x8 ≤ (wrap64 (x8 + (x111002.size : Int))) then (if (wrap64 (x8 + (x111002.size : Int))) ≤ (x1.size : Int) then (if (x1.extract (x8 : Int).toNat ((wrap64 (x8 + (x111002.size : Int))) : Int).toNat).toList = x111002.toList then (tabardref11_Locale_Plain.l0 k x1 x6 true (wrap64 (x8 + (x111002.size : Int))) x111000 x111001 x111002 x111003 x111004 x111005 x111006 x111007 x111008 x111009) else (some ((⟨#[]⟩ : ByteArray), false))) else (none)) else (none))))) else (none)) else (if (x6.length : Int) = 0 then (some ((⟨#[]⟩ : ByteArray), false)) else (if x7 = true then ((tabardref11_Locale_Grouped.f k x111000 x111001 x111002 x111003 x111004 x111005 x111006 x111007 x111008 x111009 (strOfNums x6)).bind fun t111 => (if t111.toList = x1.toList then (some (strOfNums x6, true)) else (some ((⟨#[]⟩ : ByteArray), false)))) else (some (strOfNums x6, true))))
def tabardref11_Locale_Plain.f (k : Nat) (a0_0 : ByteArray) (a0_1 : ByteArray) (a0_2 : ByteArray) (a0_3 : ByteArray) (a0_4 : ByteArray) (a0_5 : ByteArray) (a0_6 : ByteArray) (a0_7 : Bool) (a0_8 : Bool) (a0_9 : Int) (a1 : ByteArray) : Option (ByteArray × Bool) := tabardref11_Locale_Plain.l0 k a1 ([] : List Int) false 0 a0_0 a0_1 a0_2 a0_3 a0_4 a0_5 a0_6 a0_7 a0_8 a0_9
theorem tabardref11_Locale_Plain.mono_l : ∀ k, (∀ y0 y1 y2 y3 y4 y5 y6 y7 y8 y9 y10 y11 y12 y13, LeO (tabardref11_Locale_Plain.l0 k y0 y1 y2 y3 y4 y5 y6 y7 y8 y9 y10 y11 y12 y13) (tabardref11_Locale_Plain.l0 (k + 1) y0 y1 y2 y3 y4 y5 y6 y7 y8 y9 y10 y11 y12 y13))
  | 0 => fun _ _ _ _ _ _ _ _ _ _ _ _ _ _ r h => by simp [tabardref11_Locale_Plain.l0] at h
  | k + 1 => by
    have ih0 := tabardref11_Locale_Plain.mono_l k
    · intro y0 y1 y2 y3 y4 y5 y6 y7 y8 y9 y10 y11 y12 y13
      unfold tabardref11_Locale_Plain.l0
      repeat' first
      | (with_reducible exact ih0 _ _ _ _ _ _ _ _ _ _ _ _ _ _)
      | (with_reducible exact tabardref11_Locale_Grouped.mono _ _ _ _ _ _ _ _ _ _ _ _)
      | (with_reducible exact LeO.refl _)
      | (with_reducible exact LeO.none _)
      | (with_reducible refine LeO.ite ?_ ?_)
      | (with_reducible refine LeO.bind ?_ (fun _ => ?_))
      | exact ih0 _ _ _ _ _ _ _ _ _ _ _ _ _ _
      | exact tabardref11_Locale_Grouped.mono _ _ _ _ _ _ _ _ _ _ _ _
      | exact LeO.none _
      | refine LeO.ite ?_ ?_
      | refine LeO.bind ?_ (fun _ => ?_)
theorem tabardref11_Locale_Plain.mono : ∀ a0 a1 a2 a3 a4 a5 a6 a7 a8 a9 a10 k, LeO (tabardref11_Locale_Plain.f k a0 a1 a2 a3 a4 a5 a6 a7 a8 a9 a10) (tabardref11_Locale_Plain.f (k + 1) a0 a1 a2 a3 a4 a5 a6 a7 a8 a9 a10) := by
  intro a0 a1 a2 a3 a4 a5 a6 a7 a8 a9 a10 k
  have ih0 := tabardref11_Locale_Plain.mono_l k
  unfold tabardref11_Locale_Plain.f
  repeat' first
      | (with_reducible exact ih0 _ _ _ _ _ _ _ _ _ _ _ _ _ _)
      | (with_reducible exact tabardref11_Locale_Grouped.mono _ _ _ _ _ _ _ _ _ _ _ _)
      | (with_reducible exact LeO.refl _)
      | (with_reducible exact LeO.none _)
      | (with_reducible refine LeO.ite ?_ ?_)
      | (with_reducible refine LeO.bind ?_ (fun _ => ?_))
      | exact ih0 _ _ _ _ _ _ _ _ _ _ _ _ _ _
      | exact tabardref11_Locale_Grouped.mono _ _ _ _ _ _ _ _ _ _ _ _
      | exact LeO.none _
      | refine LeO.ite ?_ ?_
      | refine LeO.bind ?_ (fun _ => ?_)
set_option maxHeartbeats 8000000 in
set_option maxRecDepth 100000 in
theorem tabardref11_Locale_Plain.calls (k : Nat) (a0_0 : ByteArray) (a0_1 : ByteArray) (a0_2 : ByteArray) (a0_3 : ByteArray) (a0_4 : ByteArray) (a0_5 : ByteArray) (a0_6 : ByteArray) (a0_7 : Bool) (a0_8 : Bool) (a0_9 : Int) (a1 : ByteArray) (r1 : ByteArray) (r2 : Bool) (w : World) (h : tabardref11_Locale_Plain.f k a0_0 a0_1 a0_2 a0_3 a0_4 a0_5 a0_6 a0_7 a0_8 a0_9 a1 = some (r1, r2)) :
    Calls Tryd.prog 13 #[.agg #[.string a0_0, .string a0_1, .string a0_2, .string a0_3, .string a0_4, .string a0_5, .string a0_6, .bool a0_7, .bool a0_8, .int .i64 a0_9], .string a1] w fun e w' => e = .returned (.tuple #[.string r1, .bool r2]) ∧ Below w.heap.size w w' := by
  have hu27 := Tryd.underlying27
  have HB := Aside0.mk (Below.refl w.heap.size w)
  have H : (tabardref11_Locale_Plain.l0 k a1 ([] : List Int) false 0 a0_0 a0_1 a0_2 a0_3 a0_4 a0_5 a0_6 a0_7 a0_8 a0_9) = some (r1, r2) := h
  clear h
  have H' := Aside0.mk H
  clear H
  go_enter Tryd.func13, Tryd.ntmps13
  go_wp2_with (first | ((with_reducible refine gate_dst (N := 2) rfl ?_); refine box_event ?hg (N := 2) ?hd (cs := #[.string a0_0, .string a0_1, .string a0_2, .string a0_3, .string a0_4, .string a0_5, .string a0_6, .bool a0_7, .bool a0_8, .int .i64 a0_9]) (t := 27) ?hr ?_; (case hd => rfl); (case hg => rfl); (case hr => first | (go_simp; done) | (go_simp; rfl)); intro gb110 hg w3 hbox hb; have n0_ := Aside0.mk (below_step (by repeat (first | (with_reducible first | exact HB.out | apply below_alloc | apply pw_below_drewN | apply below_drew1) | exact HB.out)) hb); have n1_ := Aside0.mk (hbox); have n2_ := Aside0.mk ((by rw [hg]; exact (below_size (by repeat (first | (with_reducible first | exact HB.out | apply below_alloc | apply pw_below_drewN | apply below_drew1) | exact HB.out))) : w.heap.size ≤ gb110)); have n3_ := Aside0.mk ((by rw [hg]; exact (below_size (by repeat (first | (with_reducible first | exact HB.out | apply below_alloc | apply pw_below_drewN | apply below_drew1) | exact HB.out))) : w.heap.size ≤ gb110)); clear HB; have HB := n0_; have BK110 := n1_; have GW110 := n2_; have GE110 := n3_; clear n0_ n1_ n2_ n3_; clear hb hbox hg))
  repeat (go_quiet (first | ((with_reducible refine gate_dst (N := 2) rfl ?_); refine box_event ?hg (N := 2) ?hd (cs := #[.string a0_0, .string a0_1, .string a0_2, .string a0_3, .string a0_4, .string a0_5, .string a0_6, .bool a0_7, .bool a0_8, .int .i64 a0_9]) (t := 27) ?hr ?_; (case hd => rfl); (case hg => rfl); (case hr => first | (go_simp; done) | (go_simp; rfl)); intro gb110 hg w3 hbox hb; have n0_ := Aside0.mk (below_step (by repeat (first | (with_reducible first | exact HB.out | apply below_alloc | apply pw_below_drewN | apply below_drew1) | exact HB.out)) hb); have n1_ := Aside0.mk (hbox); have n2_ := Aside0.mk ((by rw [hg]; exact (below_size (by repeat (first | (with_reducible first | exact HB.out | apply below_alloc | apply pw_below_drewN | apply below_drew1) | exact HB.out))) : w.heap.size ≤ gb110)); have n3_ := Aside0.mk ((by rw [hg]; exact (below_size (by repeat (first | (with_reducible first | exact HB.out | apply below_alloc | apply pw_below_drewN | apply below_drew1) | exact HB.out))) : w.heap.size ≤ gb110)); clear HB; have HB := n0_; have BK110 := n1_; have GW110 := n2_; have GE110 := n3_; clear n0_ n1_ n2_ n3_; clear hb hbox hg)); try go_wp2_with (first | ((with_reducible refine gate_dst (N := 2) rfl ?_); refine box_event ?hg (N := 2) ?hd (cs := #[.string a0_0, .string a0_1, .string a0_2, .string a0_3, .string a0_4, .string a0_5, .string a0_6, .bool a0_7, .bool a0_8, .int .i64 a0_9]) (t := 27) ?hr ?_; (case hd => rfl); (case hg => rfl); (case hr => first | (go_simp; done) | (go_simp; rfl)); intro gb110 hg w3 hbox hb; have n0_ := Aside0.mk (below_step (by repeat (first | (with_reducible first | exact HB.out | apply below_alloc | apply pw_below_drewN | apply below_drew1) | exact HB.out)) hb); have n1_ := Aside0.mk (hbox); have n2_ := Aside0.mk ((by rw [hg]; exact (below_size (by repeat (first | (with_reducible first | exact HB.out | apply below_alloc | apply pw_below_drewN | apply below_drew1) | exact HB.out))) : w.heap.size ≤ gb110)); have n3_ := Aside0.mk ((by rw [hg]; exact (below_size (by repeat (first | (with_reducible first | exact HB.out | apply below_alloc | apply pw_below_drewN | apply below_drew1) | exact HB.out))) : w.heap.size ≤ gb110)); clear HB; have HB := n0_; have BK110 := n1_; have GW110 := n2_; have GE110 := n3_; clear n0_ n1_ n2_ n3_; clear hb hbox hg)))
  go_loopg [6, 7, 8] k (fun kq v6 v7 v8 w' => ∃ (x6_1 : List Int) (x7_1 : Bool) (x8_1 : Int), v7 = .bool x7_1 ∧ v8 = .int .i64 x8_1 ∧ Aside0 (tabardref11_Locale_Plain.l0 kq a1 x6_1 x7_1 x8_1 a0_0 a0_1 a0_2 a0_3 a0_4 a0_5 a0_6 a0_7 a0_8 a0_9 = some (r1, r2)) ∧ Aside0 (kq ≤ k) ∧ Aside0 (Kd.R (Kd.int .u8) 5 w' w.heap.size (fun _ => True) v6 x6_1) ∧ Aside0 (w'.heap[gb110]? = some (.cells #[.string a0_0, .string a0_1, .string a0_2, .string a0_3, .string a0_4, .string a0_5, .string a0_6, .bool a0_7, .bool a0_8, .int .i64 a0_9] 27 (0, 0))) ∧ Aside0 (Below w.heap.size w w'))
  case atStart => exact ⟨(([] : List Int)), (false), (0), (by first | rfl | (simp; done) | (simp [*]; done) | (simp [bne]; done)), (by first | rfl | (simp; done) | (simp [*]; done) | (simp [bne]; done)), H', ⟨Nat.le_refl _⟩, ⟨by first | exact Kd.R_nil _ _ _ _ _ | exact Kd.N_nil _ _ _ _ _ | exact Kd.V_nil _ _ _ _ _ | exact Kd.Q_nil _ _ _ _ _ | exact Kd.S_nil _ _ _ _ _⟩, ⟨by (with_reducible repeat (first | refine blk_drewN ?_ _ | refine blk_drew ?_ | refine blk_alloc ?_ _)); exact BK110.out⟩, ⟨by repeat (first | (with_reducible first | exact HB.out | apply below_alloc | apply pw_below_drewN | apply below_drew1 | refine below_set ?_ GE110.out) | exact HB.out)⟩⟩
  case round =>
    clear H'
    try clear c1
    try clear p2
    obtain ⟨x6_1, x7_1, x8_1, rfl, rfl, HA, HK1, HO_6, BK110, HB⟩ := hrel
    cases gk with
    | zero => exact absurd HA.out (by simp [tabardref11_Locale_Plain.l0])
    | succ k1 =>
      have H := HA.out
      clear HA
      simp only [tabardref11_Locale_Plain.l0] at H
      by_cases c4 : x8_1 < (a1.size : Int)
      · rw [if_pos c4] at H
        have c4b0 : decide (x8_1 < (a1.size : Int)) = true := decide_eq_true c4
        clear c4
        by_cases c5 : 0 ≤ x8_1
        · rw [if_pos c5] at H
          have c5b0 : decide (0 ≤ x8_1) = true := decide_eq_true c5
          clear c5
          replace H := Option.bind_eq_some_iff.mp H
          obtain ⟨t112, A70, H⟩ := H
          replace H : (if t112 = true then (if x6_1.length < 140737488355328 then (tabardref11_Locale_Plain.l0 k1 a1 (x6_1 ++ [bt a1 x8_1]) x7_1 (wrap64 (x8_1 + 1)) a0_0 a0_1 a0_2 a0_3 a0_4 a0_5 a0_6 a0_7 a0_8 a0_9) else (none)) else (if (wrap64 (x8_1 + (a0_2.size : Int))) > (a1.size : Int) then (some ((⟨#[]⟩ : ByteArray), false)) else (if x8_1 ≤ (wrap64 (x8_1 + (a0_2.size : Int))) then (if (wrap64 (x8_1 + (a0_2.size : Int))) ≤ (a1.size : Int) then (if (a1.extract (x8_1 : Int).toNat ((wrap64 (x8_1 + (a0_2.size : Int))) : Int).toNat).toList = a0_2.toList then (tabardref11_Locale_Plain.l0 k1 a1 x6_1 true (wrap64 (x8_1 + (a0_2.size : Int))) a0_0 a0_1 a0_2 a0_3 a0_4 a0_5 a0_6 a0_7 a0_8 a0_9) else (some ((⟨#[]⟩ : ByteArray), false))) else (none)) else (none)))) = some (r1, r2) := H
          have A7 := Aside0.mk A70
          clear A70
          by_cases c8 : t112 = true
          · subst c8
            have H1 : (if x6_1.length < 140737488355328 then (tabardref11_Locale_Plain.l0 k1 a1 (x6_1 ++ [bt a1 x8_1]) x7_1 (wrap64 (x8_1 + 1)) a0_0 a0_1 a0_2 a0_3 a0_4 a0_5 a0_6 a0_7 a0_8 a0_9) else (none)) = some (r1, r2) := by rw [if_pos rfl] at H; exact H
            clear H
            have H := H1
            clear H1
            by_cases c10 : x6_1.length < 140737488355328
            · rw [if_pos c10] at H
              have LMc10 := Aside0.mk c10
              clear c10
              obtain ⟨y113, hy113⟩ : ∃ y_ : List Int, y_ = (x6_1 ++ [bt a1 x8_1]) := ⟨_, rfl⟩
              replace H : (tabardref11_Locale_Plain.l0 k1 a1 y113 x7_1 (wrap64 (x8_1 + 1)) a0_0 a0_1 a0_2 a0_3 a0_4 a0_5 a0_6 a0_7 a0_8 a0_9) = some (r1, r2) := by first | (rw [hy113]; with_reducible exact H) | (have H2_ := (Option.bind_some _ _).symm.trans H; rw [hy113]; with_reducible exact H2_) | (have H2_ := (Option.bind_some _ _).symm.trans H; with_reducible exact H2_) | with_reducible exact H | (rw [hy113]; exact H) | exact H
              have Ny113 := Aside0.mk hy113
              clear hy113
              have H' := Aside0.mk H
              clear H
              have p6 : 0 ≤ (x8_1 : Int) := of_decide_eq_true (by first | (with_reducible assumption) | assumption)
              have q6 : x8_1 < (a1.size : Int) := of_decide_eq_true (by first | (with_reducible assumption) | assumption)
              have hx6 := bt_at a1 x8_1
              replace p6 := eq_true p6
              replace q6 := eq_true q6
              go_wp2_with (first | (go_at_call 42; (with_reducible refine (tabardref11_digit.calls (bt a1 x8_1) true _ A7.out).mono ?_); rintro e w' ⟨rfl, ⟨nd, rfl⟩⟩; (try first | exact ⟨rfl, _, World.drewN_drewN _ _ _⟩ | exact ⟨rfl, _, Eq.trans (World.drewN_drewN _ _ _) (congrArg (World.drewN _) (Nat.add_assoc _ _ _))⟩); have p9 : 0 ≤ (x8_1 : Int) := of_decide_eq_true (by first | (with_reducible assumption) | assumption); have q9 : x8_1 < (a1.size : Int) := of_decide_eq_true (by first | (with_reducible assumption) | assumption); have hx9 := bt_at a1 x8_1; replace p9 := eq_true p9; replace q9 := eq_true q9) | ((with_reducible refine gate_builtin (b := .append) (xs := #[.tmp 20, .tmp 24]) rfl ?_); at_builtin; refine Kd.R_append (Kd.int .u8) (w0 := w) w.heap.size rfl (.tmp 20) (.tmp 24) 77 5 (.int .u8 0) 1 rfl Tryd.underlying77 info5 rfl (by decide) (by omega) u6 x6_1 (bt a1 x8_1) [.int .u8 (bt a1 x8_1)] (fun _ => True) (fun _ => False) rfl rfl ?aP (fun _ hk => hk.elim) ?aF ?aO ?aB ?aS ?aL ?_; (case aP => exact rfl); (case aB => exact (by repeat (first | (with_reducible first | exact HB.out | apply below_alloc | apply pw_below_drewN | apply below_drew1 | refine below_set ?_ GE110.out) | exact HB.out))); (case aF => exact (fun _ _ => trivial)); (case aO => exact (by (with_reducible repeat (first | apply Kd.R_alloc | apply Kd.R_drewN | apply Kd.R_drew)); exact HO_6.out)); (case aS => exact (below_size (by repeat (first | (with_reducible first | exact HB.out | apply below_alloc | apply pw_below_drewN | apply below_drew1 | refine below_set ?_ GE110.out) | exact HB.out)))); (case aL => have := LMc10.out; omega); intro v114 w11 ho hb hg hat; rw [← Ny113.out] at ho; have n0_ := Aside0.mk (blk_grown (g := gb110) (o := .cells #[.string a0_0, .string a0_1, .string a0_2, .string a0_3, .string a0_4, .string a0_5, .string a0_6, .bool a0_7, .bool a0_8, .int .i64 a0_9] 27 (0, 0)) (by (with_reducible repeat (first | refine blk_drewN ?_ _ | refine blk_drew ?_ | refine blk_alloc ?_ _)); exact BK110.out) hg (Kd.R_ne HO_6.out BK110.out (by decide))); have n1_ := Aside0.mk (hb); have n2_ := Aside0.mk (ho); clear BK110; clear HB; clear HO_6; have BK110 := n0_; have HB := n1_; have HO115 := n2_; clear n0_ n1_ n2_; clear ho hb hg hat))
              repeat (go_quiet (first | (go_at_call 42; (with_reducible refine (tabardref11_digit.calls (bt a1 x8_1) true _ A7.out).mono ?_); rintro e w' ⟨rfl, ⟨nd, rfl⟩⟩; (try first | exact ⟨rfl, _, World.drewN_drewN _ _ _⟩ | exact ⟨rfl, _, Eq.trans (World.drewN_drewN _ _ _) (congrArg (World.drewN _) (Nat.add_assoc _ _ _))⟩); have p9 : 0 ≤ (x8_1 : Int) := of_decide_eq_true (by first | (with_reducible assumption) | assumption); have q9 : x8_1 < (a1.size : Int) := of_decide_eq_true (by first | (with_reducible assumption) | assumption); have hx9 := bt_at a1 x8_1; replace p9 := eq_true p9; replace q9 := eq_true q9) | ((with_reducible refine gate_builtin (b := .append) (xs := #[.tmp 20, .tmp 24]) rfl ?_); at_builtin; refine Kd.R_append (Kd.int .u8) (w0 := w) w.heap.size rfl (.tmp 20) (.tmp 24) 77 5 (.int .u8 0) 1 rfl Tryd.underlying77 info5 rfl (by decide) (by omega) u6 x6_1 (bt a1 x8_1) [.int .u8 (bt a1 x8_1)] (fun _ => True) (fun _ => False) rfl rfl ?aP (fun _ hk => hk.elim) ?aF ?aO ?aB ?aS ?aL ?_; (case aP => exact rfl); (case aB => exact (by repeat (first | (with_reducible first | exact HB.out | apply below_alloc | apply pw_below_drewN | apply below_drew1 | refine below_set ?_ GE110.out) | exact HB.out))); (case aF => exact (fun _ _ => trivial)); (case aO => exact (by (with_reducible repeat (first | apply Kd.R_alloc | apply Kd.R_drewN | apply Kd.R_drew)); exact HO_6.out)); (case aS => exact (below_size (by repeat (first | (with_reducible first | exact HB.out | apply below_alloc | apply pw_below_drewN | apply below_drew1 | refine below_set ?_ GE110.out) | exact HB.out)))); (case aL => have := LMc10.out; omega); intro v114 w11 ho hb hg hat; rw [← Ny113.out] at ho; have n0_ := Aside0.mk (blk_grown (g := gb110) (o := .cells #[.string a0_0, .string a0_1, .string a0_2, .string a0_3, .string a0_4, .string a0_5, .string a0_6, .bool a0_7, .bool a0_8, .int .i64 a0_9] 27 (0, 0)) (by (with_reducible repeat (first | refine blk_drewN ?_ _ | refine blk_drew ?_ | refine blk_alloc ?_ _)); exact BK110.out) hg (Kd.R_ne HO_6.out BK110.out (by decide))); have n1_ := Aside0.mk (hb); have n2_ := Aside0.mk (ho); clear BK110; clear HB; clear HO_6; have BK110 := n0_; have HB := n1_; have HO115 := n2_; clear n0_ n1_ n2_; clear ho hb hg hat)); try go_wp2_with (first | (go_at_call 42; (with_reducible refine (tabardref11_digit.calls (bt a1 x8_1) true _ A7.out).mono ?_); rintro e w' ⟨rfl, ⟨nd, rfl⟩⟩; (try first | exact ⟨rfl, _, World.drewN_drewN _ _ _⟩ | exact ⟨rfl, _, Eq.trans (World.drewN_drewN _ _ _) (congrArg (World.drewN _) (Nat.add_assoc _ _ _))⟩); have p9 : 0 ≤ (x8_1 : Int) := of_decide_eq_true (by first | (with_reducible assumption) | assumption); have q9 : x8_1 < (a1.size : Int) := of_decide_eq_true (by first | (with_reducible assumption) | assumption); have hx9 := bt_at a1 x8_1; replace p9 := eq_true p9; replace q9 := eq_true q9) | ((with_reducible refine gate_builtin (b := .append) (xs := #[.tmp 20, .tmp 24]) rfl ?_); at_builtin; refine Kd.R_append (Kd.int .u8) (w0 := w) w.heap.size rfl (.tmp 20) (.tmp 24) 77 5 (.int .u8 0) 1 rfl Tryd.underlying77 info5 rfl (by decide) (by omega) u6 x6_1 (bt a1 x8_1) [.int .u8 (bt a1 x8_1)] (fun _ => True) (fun _ => False) rfl rfl ?aP (fun _ hk => hk.elim) ?aF ?aO ?aB ?aS ?aL ?_; (case aP => exact rfl); (case aB => exact (by repeat (first | (with_reducible first | exact HB.out | apply below_alloc | apply pw_below_drewN | apply below_drew1 | refine below_set ?_ GE110.out) | exact HB.out))); (case aF => exact (fun _ _ => trivial)); (case aO => exact (by (with_reducible repeat (first | apply Kd.R_alloc | apply Kd.R_drewN | apply Kd.R_drew)); exact HO_6.out)); (case aS => exact (below_size (by repeat (first | (with_reducible first | exact HB.out | apply below_alloc | apply pw_below_drewN | apply below_drew1 | refine below_set ?_ GE110.out) | exact HB.out)))); (case aL => have := LMc10.out; omega); intro v114 w11 ho hb hg hat; rw [← Ny113.out] at ho; have n0_ := Aside0.mk (blk_grown (g := gb110) (o := .cells #[.string a0_0, .string a0_1, .string a0_2, .string a0_3, .string a0_4, .string a0_5, .string a0_6, .bool a0_7, .bool a0_8, .int .i64 a0_9] 27 (0, 0)) (by (with_reducible repeat (first | refine blk_drewN ?_ _ | refine blk_drew ?_ | refine blk_alloc ?_ _)); exact BK110.out) hg (Kd.R_ne HO_6.out BK110.out (by decide))); have n1_ := Aside0.mk (hb); have n2_ := Aside0.mk (ho); clear BK110; clear HB; clear HO_6; have BK110 := n0_; have HB := n1_; have HO115 := n2_; clear n0_ n1_ n2_; clear ho hb hg hat)))
              go_roundg k1
              case measure => have := HK1.out; omega
              case rel => exact ⟨(y113), (x7_1), (wrap64 (x8_1 + 1)), (by first | rfl | (simp; done) | (simp [*]; done) | (simp [bne]; done)), (by first | rfl | (simp; done) | (simp [*]; done) | (simp [bne]; done)), H', ⟨by have := HK1.out; omega⟩, ⟨by (with_reducible repeat (first | apply Kd.R_alloc | apply Kd.R_drewN | apply Kd.R_drew)); exact HO115.out⟩, ⟨by (with_reducible repeat (first | refine blk_drewN ?_ _ | refine blk_drew ?_ | refine blk_alloc ?_ _)); exact BK110.out⟩, ⟨by repeat (first | (with_reducible first | exact HB.out | apply below_alloc | apply pw_below_drewN | apply below_drew1 | refine below_set ?_ GE110.out) | exact HB.out)⟩⟩
            · rw [if_neg c10] at H
              exact absurd H (by simp)
          · replace c8 := Bool.eq_false_iff.mpr c8
            subst c8
            have H1 : (if (wrap64 (x8_1 + (a0_2.size : Int))) > (a1.size : Int) then (some ((⟨#[]⟩ : ByteArray), false)) else (if x8_1 ≤ (wrap64 (x8_1 + (a0_2.size : Int))) then (if (wrap64 (x8_1 + (a0_2.size : Int))) ≤ (a1.size : Int) then (if (a1.extract (x8_1 : Int).toNat ((wrap64 (x8_1 + (a0_2.size : Int))) : Int).toNat).toList = a0_2.toList then (tabardref11_Locale_Plain.l0 k1 a1 x6_1 true (wrap64 (x8_1 + (a0_2.size : Int))) a0_0 a0_1 a0_2 a0_3 a0_4 a0_5 a0_6 a0_7 a0_8 a0_9) else (some ((⟨#[]⟩ : ByteArray), false))) else (none)) else (none))) = some (r1, r2) := by rw [if_neg (show ¬ (false = true) by decide)] at H; exact H
            clear H
            have H := H1
            clear H1
            by_cases c12 : (wrap64 (x8_1 + (a0_2.size : Int))) > (a1.size : Int)
            · rw [if_pos c12] at H
              have c12b0 : decide ((a1.size : Int) < (wrap64 (x8_1 + (a0_2.size : Int)))) = true := decide_eq_true c12
              clear c12
              simp only [Option.some.injEq, Prod.mk.injEq] at H
              obtain ⟨rfl, rfl⟩ := H
              have p6 : 0 ≤ (x8_1 : Int) := of_decide_eq_true (by first | (with_reducible assumption) | assumption)
              have q6 : x8_1 < (a1.size : Int) := of_decide_eq_true (by first | (with_reducible assumption) | assumption)
              have hx6 := bt_at a1 x8_1
              replace p6 := eq_true p6
              replace q6 := eq_true q6
              go_wp2_with (first | (go_at_call 42; (with_reducible refine (tabardref11_digit.calls (bt a1 x8_1) false _ A7.out).mono ?_); rintro e w' ⟨rfl, ⟨nd, rfl⟩⟩; (try first | exact ⟨rfl, _, World.drewN_drewN _ _ _⟩ | exact ⟨rfl, _, Eq.trans (World.drewN_drewN _ _ _) (congrArg (World.drewN _) (Nat.add_assoc _ _ _))⟩); have hcz13_0 : wr.cell? ⟨gb110, 0, none⟩ = some (.string a0_0) := (blk_cell BK110.out 0).trans rfl; have hcz13_1 : wr.cell? ⟨gb110, 1, none⟩ = some (.string a0_1) := (blk_cell BK110.out 1).trans rfl; have hcz13_2 : wr.cell? ⟨gb110, 2, none⟩ = some (.string a0_2) := (blk_cell BK110.out 2).trans rfl; have hcz13_3 : wr.cell? ⟨gb110, 3, none⟩ = some (.string a0_3) := (blk_cell BK110.out 3).trans rfl; have hcz13_4 : wr.cell? ⟨gb110, 4, none⟩ = some (.string a0_4) := (blk_cell BK110.out 4).trans rfl; have hcz13_5 : wr.cell? ⟨gb110, 5, none⟩ = some (.string a0_5) := (blk_cell BK110.out 5).trans rfl; have hcz13_6 : wr.cell? ⟨gb110, 6, none⟩ = some (.string a0_6) := (blk_cell BK110.out 6).trans rfl; have hcz13_7 : wr.cell? ⟨gb110, 7, none⟩ = some (.bool a0_7) := (blk_cell BK110.out 7).trans rfl; have hcz13_8 : wr.cell? ⟨gb110, 8, none⟩ = some (.bool a0_8) := (blk_cell BK110.out 8).trans rfl; have hcz13_9 : wr.cell? ⟨gb110, 9, none⟩ = some (.int .i64 a0_9) := (blk_cell BK110.out 9).trans rfl; have hfz13_0 := blk_frozen BK110.out 0; have hfz13_1 := blk_frozen BK110.out 1; have hfz13_2 := blk_frozen BK110.out 2; have hfz13_3 := blk_frozen BK110.out 3; have hfz13_4 := blk_frozen BK110.out 4; have hfz13_5 := blk_frozen BK110.out 5; have hfz13_6 := blk_frozen BK110.out 6; have hfz13_7 := blk_frozen BK110.out 7; have hfz13_8 := blk_frozen BK110.out 8; have hfz13_9 := blk_frozen BK110.out 9))
              repeat (go_quiet (first | (go_at_call 42; (with_reducible refine (tabardref11_digit.calls (bt a1 x8_1) false _ A7.out).mono ?_); rintro e w' ⟨rfl, ⟨nd, rfl⟩⟩; (try first | exact ⟨rfl, _, World.drewN_drewN _ _ _⟩ | exact ⟨rfl, _, Eq.trans (World.drewN_drewN _ _ _) (congrArg (World.drewN _) (Nat.add_assoc _ _ _))⟩); have hcz13_0 : wr.cell? ⟨gb110, 0, none⟩ = some (.string a0_0) := (blk_cell BK110.out 0).trans rfl; have hcz13_1 : wr.cell? ⟨gb110, 1, none⟩ = some (.string a0_1) := (blk_cell BK110.out 1).trans rfl; have hcz13_2 : wr.cell? ⟨gb110, 2, none⟩ = some (.string a0_2) := (blk_cell BK110.out 2).trans rfl; have hcz13_3 : wr.cell? ⟨gb110, 3, none⟩ = some (.string a0_3) := (blk_cell BK110.out 3).trans rfl; have hcz13_4 : wr.cell? ⟨gb110, 4, none⟩ = some (.string a0_4) := (blk_cell BK110.out 4).trans rfl; have hcz13_5 : wr.cell? ⟨gb110, 5, none⟩ = some (.string a0_5) := (blk_cell BK110.out 5).trans rfl; have hcz13_6 : wr.cell? ⟨gb110, 6, none⟩ = some (.string a0_6) := (blk_cell BK110.out 6).trans rfl; have hcz13_7 : wr.cell? ⟨gb110, 7, none⟩ = some (.bool a0_7) := (blk_cell BK110.out 7).trans rfl; have hcz13_8 : wr.cell? ⟨gb110, 8, none⟩ = some (.bool a0_8) := (blk_cell BK110.out 8).trans rfl; have hcz13_9 : wr.cell? ⟨gb110, 9, none⟩ = some (.int .i64 a0_9) := (blk_cell BK110.out 9).trans rfl; have hfz13_0 := blk_frozen BK110.out 0; have hfz13_1 := blk_frozen BK110.out 1; have hfz13_2 := blk_frozen BK110.out 2; have hfz13_3 := blk_frozen BK110.out 3; have hfz13_4 := blk_frozen BK110.out 4; have hfz13_5 := blk_frozen BK110.out 5; have hfz13_6 := blk_frozen BK110.out 6; have hfz13_7 := blk_frozen BK110.out 7; have hfz13_8 := blk_frozen BK110.out 8; have hfz13_9 := blk_frozen BK110.out 9)); try go_wp2_with (first | (go_at_call 42; (with_reducible refine (tabardref11_digit.calls (bt a1 x8_1) false _ A7.out).mono ?_); rintro e w' ⟨rfl, ⟨nd, rfl⟩⟩; (try first | exact ⟨rfl, _, World.drewN_drewN _ _ _⟩ | exact ⟨rfl, _, Eq.trans (World.drewN_drewN _ _ _) (congrArg (World.drewN _) (Nat.add_assoc _ _ _))⟩); have hcz13_0 : wr.cell? ⟨gb110, 0, none⟩ = some (.string a0_0) := (blk_cell BK110.out 0).trans rfl; have hcz13_1 : wr.cell? ⟨gb110, 1, none⟩ = some (.string a0_1) := (blk_cell BK110.out 1).trans rfl; have hcz13_2 : wr.cell? ⟨gb110, 2, none⟩ = some (.string a0_2) := (blk_cell BK110.out 2).trans rfl; have hcz13_3 : wr.cell? ⟨gb110, 3, none⟩ = some (.string a0_3) := (blk_cell BK110.out 3).trans rfl; have hcz13_4 : wr.cell? ⟨gb110, 4, none⟩ = some (.string a0_4) := (blk_cell BK110.out 4).trans rfl; have hcz13_5 : wr.cell? ⟨gb110, 5, none⟩ = some (.string a0_5) := (blk_cell BK110.out 5).trans rfl; have hcz13_6 : wr.cell? ⟨gb110, 6, none⟩ = some (.string a0_6) := (blk_cell BK110.out 6).trans rfl; have hcz13_7 : wr.cell? ⟨gb110, 7, none⟩ = some (.bool a0_7) := (blk_cell BK110.out 7).trans rfl; have hcz13_8 : wr.cell? ⟨gb110, 8, none⟩ = some (.bool a0_8) := (blk_cell BK110.out 8).trans rfl; have hcz13_9 : wr.cell? ⟨gb110, 9, none⟩ = some (.int .i64 a0_9) := (blk_cell BK110.out 9).trans rfl; have hfz13_0 := blk_frozen BK110.out 0; have hfz13_1 := blk_frozen BK110.out 1; have hfz13_2 := blk_frozen BK110.out 2; have hfz13_3 := blk_frozen BK110.out 3; have hfz13_4 := blk_frozen BK110.out 4; have hfz13_5 := blk_frozen BK110.out 5; have hfz13_6 := blk_frozen BK110.out 6; have hfz13_7 := blk_frozen BK110.out 7; have hfz13_8 := blk_frozen BK110.out 8; have hfz13_9 := blk_frozen BK110.out 9)))
              go_ret2
              exact ⟨by first | rfl | (simp [errW_none, errW_some] <;> rfl) | (simp [*, errW_none, errW_some] <;> rfl), by repeat (first | (with_reducible first | exact HB.out | apply below_alloc | apply pw_below_drewN | apply below_drew1 | refine below_set ?_ GE110.out) | exact HB.out)⟩
            · rw [if_neg c12] at H
              have c12b0 : decide ((a1.size : Int) < (wrap64 (x8_1 + (a0_2.size : Int)))) = false := decide_eq_false c12
              clear c12
              have c14b0 := eq_true (of_decide_eq_true (by first | (with_reducible assumption) | assumption) : 0 ≤ x8_1)
              by_cases c15 : x8_1 ≤ (wrap64 (x8_1 + (a0_2.size : Int)))
              · rw [if_pos c15] at H
                have c15b0 := eq_true c15
                have c15b1 : decide (x8_1 ≤ (wrap64 (x8_1 + (a0_2.size : Int)))) = true := decide_eq_true c15
                by_cases c16 : (wrap64 (x8_1 + (a0_2.size : Int))) ≤ (a1.size : Int)
                · rw [if_pos c16] at H
                  have c16b0 := eq_true c16
                  have c16b1 : decide ((wrap64 (x8_1 + (a0_2.size : Int))) ≤ (a1.size : Int)) = true := decide_eq_true c16
                  by_cases c17 : (a1.extract (x8_1 : Int).toNat ((wrap64 (x8_1 + (a0_2.size : Int))) : Int).toNat).toList = a0_2.toList
                  · rw [if_pos c17] at H
                    have c17b0 : ((a1.extract (x8_1 : Int).toNat ((wrap64 (x8_1 + (a0_2.size : Int))) : Int).toNat).toList == a0_2.toList) = true := beq_iff_eq.mpr c17
                    have c17b1 : ((a1.extract (x8_1 : Int).toNat ((wrap64 (x8_1 + (a0_2.size : Int))) : Int).toNat).toList != a0_2.toList) = false := bne_eq_false_iff_eq.mpr c17
                    clear c17
                    have H' := Aside0.mk H
                    clear H
                    have p6 : 0 ≤ (x8_1 : Int) := of_decide_eq_true (by first | (with_reducible assumption) | assumption)
                    have q6 : x8_1 < (a1.size : Int) := of_decide_eq_true (by first | (with_reducible assumption) | assumption)
                    have hx6 := bt_at a1 x8_1
                    replace p6 := eq_true p6
                    replace q6 := eq_true q6
                    go_wp2_with (first | (go_at_call 42; (with_reducible refine (tabardref11_digit.calls (bt a1 x8_1) false _ A7.out).mono ?_); rintro e w' ⟨rfl, ⟨nd, rfl⟩⟩; (try first | exact ⟨rfl, _, World.drewN_drewN _ _ _⟩ | exact ⟨rfl, _, Eq.trans (World.drewN_drewN _ _ _) (congrArg (World.drewN _) (Nat.add_assoc _ _ _))⟩); have hcz18_0 : wr.cell? ⟨gb110, 0, none⟩ = some (.string a0_0) := (blk_cell BK110.out 0).trans rfl; have hcz18_1 : wr.cell? ⟨gb110, 1, none⟩ = some (.string a0_1) := (blk_cell BK110.out 1).trans rfl; have hcz18_2 : wr.cell? ⟨gb110, 2, none⟩ = some (.string a0_2) := (blk_cell BK110.out 2).trans rfl; have hcz18_3 : wr.cell? ⟨gb110, 3, none⟩ = some (.string a0_3) := (blk_cell BK110.out 3).trans rfl; have hcz18_4 : wr.cell? ⟨gb110, 4, none⟩ = some (.string a0_4) := (blk_cell BK110.out 4).trans rfl; have hcz18_5 : wr.cell? ⟨gb110, 5, none⟩ = some (.string a0_5) := (blk_cell BK110.out 5).trans rfl; have hcz18_6 : wr.cell? ⟨gb110, 6, none⟩ = some (.string a0_6) := (blk_cell BK110.out 6).trans rfl; have hcz18_7 : wr.cell? ⟨gb110, 7, none⟩ = some (.bool a0_7) := (blk_cell BK110.out 7).trans rfl; have hcz18_8 : wr.cell? ⟨gb110, 8, none⟩ = some (.bool a0_8) := (blk_cell BK110.out 8).trans rfl; have hcz18_9 : wr.cell? ⟨gb110, 9, none⟩ = some (.int .i64 a0_9) := (blk_cell BK110.out 9).trans rfl; have hfz18_0 := blk_frozen BK110.out 0; have hfz18_1 := blk_frozen BK110.out 1; have hfz18_2 := blk_frozen BK110.out 2; have hfz18_3 := blk_frozen BK110.out 3; have hfz18_4 := blk_frozen BK110.out 4; have hfz18_5 := blk_frozen BK110.out 5; have hfz18_6 := blk_frozen BK110.out 6; have hfz18_7 := blk_frozen BK110.out 7; have hfz18_8 := blk_frozen BK110.out 8; have hfz18_9 := blk_frozen BK110.out 9))
                    repeat (go_quiet (first | (go_at_call 42; (with_reducible refine (tabardref11_digit.calls (bt a1 x8_1) false _ A7.out).mono ?_); rintro e w' ⟨rfl, ⟨nd, rfl⟩⟩; (try first | exact ⟨rfl, _, World.drewN_drewN _ _ _⟩ | exact ⟨rfl, _, Eq.trans (World.drewN_drewN _ _ _) (congrArg (World.drewN _) (Nat.add_assoc _ _ _))⟩); have hcz18_0 : wr.cell? ⟨gb110, 0, none⟩ = some (.string a0_0) := (blk_cell BK110.out 0).trans rfl; have hcz18_1 : wr.cell? ⟨gb110, 1, none⟩ = some (.string a0_1) := (blk_cell BK110.out 1).trans rfl; have hcz18_2 : wr.cell? ⟨gb110, 2, none⟩ = some (.string a0_2) := (blk_cell BK110.out 2).trans rfl; have hcz18_3 : wr.cell? ⟨gb110, 3, none⟩ = some (.string a0_3) := (blk_cell BK110.out 3).trans rfl; have hcz18_4 : wr.cell? ⟨gb110, 4, none⟩ = some (.string a0_4) := (blk_cell BK110.out 4).trans rfl; have hcz18_5 : wr.cell? ⟨gb110, 5, none⟩ = some (.string a0_5) := (blk_cell BK110.out 5).trans rfl; have hcz18_6 : wr.cell? ⟨gb110, 6, none⟩ = some (.string a0_6) := (blk_cell BK110.out 6).trans rfl; have hcz18_7 : wr.cell? ⟨gb110, 7, none⟩ = some (.bool a0_7) := (blk_cell BK110.out 7).trans rfl; have hcz18_8 : wr.cell? ⟨gb110, 8, none⟩ = some (.bool a0_8) := (blk_cell BK110.out 8).trans rfl; have hcz18_9 : wr.cell? ⟨gb110, 9, none⟩ = some (.int .i64 a0_9) := (blk_cell BK110.out 9).trans rfl; have hfz18_0 := blk_frozen BK110.out 0; have hfz18_1 := blk_frozen BK110.out 1; have hfz18_2 := blk_frozen BK110.out 2; have hfz18_3 := blk_frozen BK110.out 3; have hfz18_4 := blk_frozen BK110.out 4; have hfz18_5 := blk_frozen BK110.out 5; have hfz18_6 := blk_frozen BK110.out 6; have hfz18_7 := blk_frozen BK110.out 7; have hfz18_8 := blk_frozen BK110.out 8; have hfz18_9 := blk_frozen BK110.out 9)); try go_wp2_with (first | (go_at_call 42; (with_reducible refine (tabardref11_digit.calls (bt a1 x8_1) false _ A7.out).mono ?_); rintro e w' ⟨rfl, ⟨nd, rfl⟩⟩; (try first | exact ⟨rfl, _, World.drewN_drewN _ _ _⟩ | exact ⟨rfl, _, Eq.trans (World.drewN_drewN _ _ _) (congrArg (World.drewN _) (Nat.add_assoc _ _ _))⟩); have hcz18_0 : wr.cell? ⟨gb110, 0, none⟩ = some (.string a0_0) := (blk_cell BK110.out 0).trans rfl; have hcz18_1 : wr.cell? ⟨gb110, 1, none⟩ = some (.string a0_1) := (blk_cell BK110.out 1).trans rfl; have hcz18_2 : wr.cell? ⟨gb110, 2, none⟩ = some (.string a0_2) := (blk_cell BK110.out 2).trans rfl; have hcz18_3 : wr.cell? ⟨gb110, 3, none⟩ = some (.string a0_3) := (blk_cell BK110.out 3).trans rfl; have hcz18_4 : wr.cell? ⟨gb110, 4, none⟩ = some (.string a0_4) := (blk_cell BK110.out 4).trans rfl; have hcz18_5 : wr.cell? ⟨gb110, 5, none⟩ = some (.string a0_5) := (blk_cell BK110.out 5).trans rfl; have hcz18_6 : wr.cell? ⟨gb110, 6, none⟩ = some (.string a0_6) := (blk_cell BK110.out 6).trans rfl; have hcz18_7 : wr.cell? ⟨gb110, 7, none⟩ = some (.bool a0_7) := (blk_cell BK110.out 7).trans rfl; have hcz18_8 : wr.cell? ⟨gb110, 8, none⟩ = some (.bool a0_8) := (blk_cell BK110.out 8).trans rfl; have hcz18_9 : wr.cell? ⟨gb110, 9, none⟩ = some (.int .i64 a0_9) := (blk_cell BK110.out 9).trans rfl; have hfz18_0 := blk_frozen BK110.out 0; have hfz18_1 := blk_frozen BK110.out 1; have hfz18_2 := blk_frozen BK110.out 2; have hfz18_3 := blk_frozen BK110.out 3; have hfz18_4 := blk_frozen BK110.out 4; have hfz18_5 := blk_frozen BK110.out 5; have hfz18_6 := blk_frozen BK110.out 6; have hfz18_7 := blk_frozen BK110.out 7; have hfz18_8 := blk_frozen BK110.out 8; have hfz18_9 := blk_frozen BK110.out 9)))
                    go_roundg k1
                    case measure => have := HK1.out; omega
                    case rel => exact ⟨(x6_1), (true), (wrap64 (x8_1 + (a0_2.size : Int))), (by first | rfl | (simp; done) | (simp [*]; done) | (simp [bne]; done)), (by first | rfl | (simp; done) | (simp [*]; done) | (simp [bne]; done)), H', ⟨by have := HK1.out; omega⟩, ⟨by (with_reducible repeat (first | apply Kd.R_alloc | apply Kd.R_drewN | apply Kd.R_drew)); exact HO_6.out⟩, ⟨by (with_reducible repeat (first | refine blk_drewN ?_ _ | refine blk_drew ?_ | refine blk_alloc ?_ _)); exact BK110.out⟩, ⟨by repeat (first | (with_reducible first | exact HB.out | apply below_alloc | apply pw_below_drewN | apply below_drew1 | refine below_set ?_ GE110.out) | exact HB.out)⟩⟩
                  · rw [if_neg c17] at H
                    have c17b0 : ((a1.extract (x8_1 : Int).toNat ((wrap64 (x8_1 + (a0_2.size : Int))) : Int).toNat).toList == a0_2.toList) = false := beq_eq_false_iff_ne.mpr c17
                    have c17b1 : ((a1.extract (x8_1 : Int).toNat ((wrap64 (x8_1 + (a0_2.size : Int))) : Int).toNat).toList != a0_2.toList) = true := bne_iff_ne.mpr c17
                    simp only [Option.some.injEq, Prod.mk.injEq] at H
                    obtain ⟨rfl, rfl⟩ := H
                    have p6 : 0 ≤ (x8_1 : Int) := of_decide_eq_true (by first | (with_reducible assumption) | assumption)
                    have q6 : x8_1 < (a1.size : Int) := of_decide_eq_true (by first | (with_reducible assumption) | assumption)
                    have hx6 := bt_at a1 x8_1
                    replace p6 := eq_true p6
                    replace q6 := eq_true q6
                    go_wp2_with (first | (go_at_call 42; (with_reducible refine (tabardref11_digit.calls (bt a1 x8_1) false _ A7.out).mono ?_); rintro e w' ⟨rfl, ⟨nd, rfl⟩⟩; (try first | exact ⟨rfl, _, World.drewN_drewN _ _ _⟩ | exact ⟨rfl, _, Eq.trans (World.drewN_drewN _ _ _) (congrArg (World.drewN _) (Nat.add_assoc _ _ _))⟩); have hcz19_0 : wr.cell? ⟨gb110, 0, none⟩ = some (.string a0_0) := (blk_cell BK110.out 0).trans rfl; have hcz19_1 : wr.cell? ⟨gb110, 1, none⟩ = some (.string a0_1) := (blk_cell BK110.out 1).trans rfl; have hcz19_2 : wr.cell? ⟨gb110, 2, none⟩ = some (.string a0_2) := (blk_cell BK110.out 2).trans rfl; have hcz19_3 : wr.cell? ⟨gb110, 3, none⟩ = some (.string a0_3) := (blk_cell BK110.out 3).trans rfl; have hcz19_4 : wr.cell? ⟨gb110, 4, none⟩ = some (.string a0_4) := (blk_cell BK110.out 4).trans rfl; have hcz19_5 : wr.cell? ⟨gb110, 5, none⟩ = some (.string a0_5) := (blk_cell BK110.out 5).trans rfl; have hcz19_6 : wr.cell? ⟨gb110, 6, none⟩ = some (.string a0_6) := (blk_cell BK110.out 6).trans rfl; have hcz19_7 : wr.cell? ⟨gb110, 7, none⟩ = some (.bool a0_7) := (blk_cell BK110.out 7).trans rfl; have hcz19_8 : wr.cell? ⟨gb110, 8, none⟩ = some (.bool a0_8) := (blk_cell BK110.out 8).trans rfl; have hcz19_9 : wr.cell? ⟨gb110, 9, none⟩ = some (.int .i64 a0_9) := (blk_cell BK110.out 9).trans rfl; have hfz19_0 := blk_frozen BK110.out 0; have hfz19_1 := blk_frozen BK110.out 1; have hfz19_2 := blk_frozen BK110.out 2; have hfz19_3 := blk_frozen BK110.out 3; have hfz19_4 := blk_frozen BK110.out 4; have hfz19_5 := blk_frozen BK110.out 5; have hfz19_6 := blk_frozen BK110.out 6; have hfz19_7 := blk_frozen BK110.out 7; have hfz19_8 := blk_frozen BK110.out 8; have hfz19_9 := blk_frozen BK110.out 9))
                    repeat (go_quiet (first | (go_at_call 42; (with_reducible refine (tabardref11_digit.calls (bt a1 x8_1) false _ A7.out).mono ?_); rintro e w' ⟨rfl, ⟨nd, rfl⟩⟩; (try first | exact ⟨rfl, _, World.drewN_drewN _ _ _⟩ | exact ⟨rfl, _, Eq.trans (World.drewN_drewN _ _ _) (congrArg (World.drewN _) (Nat.add_assoc _ _ _))⟩); have hcz19_0 : wr.cell? ⟨gb110, 0, none⟩ = some (.string a0_0) := (blk_cell BK110.out 0).trans rfl; have hcz19_1 : wr.cell? ⟨gb110, 1, none⟩ = some (.string a0_1) := (blk_cell BK110.out 1).trans rfl; have hcz19_2 : wr.cell? ⟨gb110, 2, none⟩ = some (.string a0_2) := (blk_cell BK110.out 2).trans rfl; have hcz19_3 : wr.cell? ⟨gb110, 3, none⟩ = some (.string a0_3) := (blk_cell BK110.out 3).trans rfl; have hcz19_4 : wr.cell? ⟨gb110, 4, none⟩ = some (.string a0_4) := (blk_cell BK110.out 4).trans rfl; have hcz19_5 : wr.cell? ⟨gb110, 5, none⟩ = some (.string a0_5) := (blk_cell BK110.out 5).trans rfl; have hcz19_6 : wr.cell? ⟨gb110, 6, none⟩ = some (.string a0_6) := (blk_cell BK110.out 6).trans rfl; have hcz19_7 : wr.cell? ⟨gb110, 7, none⟩ = some (.bool a0_7) := (blk_cell BK110.out 7).trans rfl; have hcz19_8 : wr.cell? ⟨gb110, 8, none⟩ = some (.bool a0_8) := (blk_cell BK110.out 8).trans rfl; have hcz19_9 : wr.cell? ⟨gb110, 9, none⟩ = some (.int .i64 a0_9) := (blk_cell BK110.out 9).trans rfl; have hfz19_0 := blk_frozen BK110.out 0; have hfz19_1 := blk_frozen BK110.out 1; have hfz19_2 := blk_frozen BK110.out 2; have hfz19_3 := blk_frozen BK110.out 3; have hfz19_4 := blk_frozen BK110.out 4; have hfz19_5 := blk_frozen BK110.out 5; have hfz19_6 := blk_frozen BK110.out 6; have hfz19_7 := blk_frozen BK110.out 7; have hfz19_8 := blk_frozen BK110.out 8; have hfz19_9 := blk_frozen BK110.out 9)); try go_wp2_with (first | (go_at_call 42; (with_reducible refine (tabardref11_digit.calls (bt a1 x8_1) false _ A7.out).mono ?_); rintro e w' ⟨rfl, ⟨nd, rfl⟩⟩; (try first | exact ⟨rfl, _, World.drewN_drewN _ _ _⟩ | exact ⟨rfl, _, Eq.trans (World.drewN_drewN _ _ _) (congrArg (World.drewN _) (Nat.add_assoc _ _ _))⟩); have hcz19_0 : wr.cell? ⟨gb110, 0, none⟩ = some (.string a0_0) := (blk_cell BK110.out 0).trans rfl; have hcz19_1 : wr.cell? ⟨gb110, 1, none⟩ = some (.string a0_1) := (blk_cell BK110.out 1).trans rfl; have hcz19_2 : wr.cell? ⟨gb110, 2, none⟩ = some (.string a0_2) := (blk_cell BK110.out 2).trans rfl; have hcz19_3 : wr.cell? ⟨gb110, 3, none⟩ = some (.string a0_3) := (blk_cell BK110.out 3).trans rfl; have hcz19_4 : wr.cell? ⟨gb110, 4, none⟩ = some (.string a0_4) := (blk_cell BK110.out 4).trans rfl; have hcz19_5 : wr.cell? ⟨gb110, 5, none⟩ = some (.string a0_5) := (blk_cell BK110.out 5).trans rfl; have hcz19_6 : wr.cell? ⟨gb110, 6, none⟩ = some (.string a0_6) := (blk_cell BK110.out 6).trans rfl; have hcz19_7 : wr.cell? ⟨gb110, 7, none⟩ = some (.bool a0_7) := (blk_cell BK110.out 7).trans rfl; have hcz19_8 : wr.cell? ⟨gb110, 8, none⟩ = some (.bool a0_8) := (blk_cell BK110.out 8).trans rfl; have hcz19_9 : wr.cell? ⟨gb110, 9, none⟩ = some (.int .i64 a0_9) := (blk_cell BK110.out 9).trans rfl; have hfz19_0 := blk_frozen BK110.out 0; have hfz19_1 := blk_frozen BK110.out 1; have hfz19_2 := blk_frozen BK110.out 2; have hfz19_3 := blk_frozen BK110.out 3; have hfz19_4 := blk_frozen BK110.out 4; have hfz19_5 := blk_frozen BK110.out 5; have hfz19_6 := blk_frozen BK110.out 6; have hfz19_7 := blk_frozen BK110.out 7; have hfz19_8 := blk_frozen BK110.out 8; have hfz19_9 := blk_frozen BK110.out 9)))
                    go_ret2
                    exact ⟨by first | rfl | (simp [errW_none, errW_some] <;> rfl) | (simp [*, errW_none, errW_some] <;> rfl), by repeat (first | (with_reducible first | exact HB.out | apply below_alloc | apply pw_below_drewN | apply below_drew1 | refine below_set ?_ GE110.out) | exact HB.out)⟩
                · rw [if_neg c16] at H
                  exact absurd H (by simp)
              · rw [if_neg c15] at H
                exact absurd H (by simp)
        · rw [if_neg c5] at H
          exact absurd H (by simp)
      · rw [if_neg c4] at H
        have c4b0 : decide (x8_1 < (a1.size : Int)) = false := decide_eq_false c4
        clear c4
        by_cases c20 : (x6_1.length : Int) = 0
        · rw [if_pos c20] at H
          have c20b0 : ((x6_1.length : Int) == 0) = true := beq_iff_eq.mpr c20
          have c20b1 : ((x6_1.length : Int) != 0) = false := bne_eq_false_iff_eq.mpr c20
          clear c20
          simp only [Option.some.injEq, Prod.mk.injEq] at H
          obtain ⟨rfl, rfl⟩ := H
          obtain ⟨Ao21, co21, eo21⟩ := Kd.R_slice HO_6.out
          subst eo21
          go_wp2
          repeat (go_quiet (fail); try go_wp2)
          go_ret2
          exact ⟨by first | rfl | (simp [errW_none, errW_some] <;> rfl) | (simp [*, errW_none, errW_some] <;> rfl), by repeat (first | (with_reducible first | exact HB.out | apply below_alloc | apply pw_below_drewN | apply below_drew1 | refine below_set ?_ GE110.out) | exact HB.out)⟩
        · rw [if_neg c20] at H
          have c20b0 : ((x6_1.length : Int) == 0) = false := beq_eq_false_iff_ne.mpr c20
          have c20b1 : ((x6_1.length : Int) != 0) = true := bne_iff_ne.mpr c20
          have c20b2 : ¬ (x6_1 = []) := fun h_ => c20 (by rw [h_]; rfl)
          by_cases c22 : x7_1 = true
          · subst c22
            have H1 : ((tabardref11_Locale_Grouped.f k1 a0_0 a0_1 a0_2 a0_3 a0_4 a0_5 a0_6 a0_7 a0_8 a0_9 (strOfNums x6_1)).bind fun t111 => (if t111.toList = a1.toList then (some (strOfNums x6_1, true)) else (some ((⟨#[]⟩ : ByteArray), false)))) = some (r1, r2) := by rw [if_pos rfl] at H; exact H
            clear H
            have H := H1
            clear H1
            replace H := Option.bind_eq_some_iff.mp H
            obtain ⟨t111, A230, H⟩ := H
            replace H : (if t111.toList = a1.toList then (some (strOfNums x6_1, true)) else (some ((⟨#[]⟩ : ByteArray), false))) = some (r1, r2) := H
            have A23 := Aside0.mk A230
            clear A230
            by_cases c24 : t111.toList = a1.toList
            · rw [if_pos c24] at H
              have c24b0 : (t111.toList == a1.toList) = true := beq_iff_eq.mpr c24
              have c24b1 : (t111.toList != a1.toList) = false := bne_eq_false_iff_eq.mpr c24
              clear c24
              simp only [Option.some.injEq, Prod.mk.injEq] at H
              obtain ⟨rfl, rfl⟩ := H
              obtain ⟨Ao25, co25, eo25⟩ := Kd.R_slice HO_6.out
              subst eo25
              have hcz26_0 : wr.cell? ⟨gb110, 0, none⟩ = some (.string a0_0) := (blk_cell BK110.out 0).trans rfl
              have hcz26_1 : wr.cell? ⟨gb110, 1, none⟩ = some (.string a0_1) := (blk_cell BK110.out 1).trans rfl
              have hcz26_2 : wr.cell? ⟨gb110, 2, none⟩ = some (.string a0_2) := (blk_cell BK110.out 2).trans rfl
              have hcz26_3 : wr.cell? ⟨gb110, 3, none⟩ = some (.string a0_3) := (blk_cell BK110.out 3).trans rfl
              have hcz26_4 : wr.cell? ⟨gb110, 4, none⟩ = some (.string a0_4) := (blk_cell BK110.out 4).trans rfl
              have hcz26_5 : wr.cell? ⟨gb110, 5, none⟩ = some (.string a0_5) := (blk_cell BK110.out 5).trans rfl
              have hcz26_6 : wr.cell? ⟨gb110, 6, none⟩ = some (.string a0_6) := (blk_cell BK110.out 6).trans rfl
              have hcz26_7 : wr.cell? ⟨gb110, 7, none⟩ = some (.bool a0_7) := (blk_cell BK110.out 7).trans rfl
              have hcz26_8 : wr.cell? ⟨gb110, 8, none⟩ = some (.bool a0_8) := (blk_cell BK110.out 8).trans rfl
              have hcz26_9 : wr.cell? ⟨gb110, 9, none⟩ = some (.int .i64 a0_9) := (blk_cell BK110.out 9).trans rfl
              have hfz26_0 := blk_frozen BK110.out 0
              have hfz26_1 := blk_frozen BK110.out 1
              have hfz26_2 := blk_frozen BK110.out 2
              have hfz26_3 := blk_frozen BK110.out 3
              have hfz26_4 := blk_frozen BK110.out 4
              have hfz26_5 := blk_frozen BK110.out 5
              have hfz26_6 := blk_frozen BK110.out 6
              have hfz26_7 := blk_frozen BK110.out 7
              have hfz26_8 := blk_frozen BK110.out 8
              have hfz26_9 := blk_frozen BK110.out 9
              have hcv27 := own_string (P := Tryd.prog) Tryd.underlying77 Tryd.underlying5 Tryd.underlying9 (Kd.own_of_R HO_6.out)
              go_wp2_with (first | (go_at_call 16; (with_reducible refine (tabardref11_Locale_Grouped.calls k1 a0_0 a0_1 a0_2 a0_3 a0_4 a0_5 a0_6 a0_7 a0_8 a0_9 (strOfNums x6_1) t111 _ A23.out).mono ?_); rintro e w28 ⟨rfl, hb⟩; have n0_ := Aside0.mk (Kd.R_below (by (with_reducible repeat (first | apply Kd.R_alloc | apply Kd.R_drewN | apply Kd.R_drew)); exact HO_6.out) hb); have n1_ := Aside0.mk (blk_below (g := gb110) (o := .cells #[.string a0_0, .string a0_1, .string a0_2, .string a0_3, .string a0_4, .string a0_5, .string a0_6, .bool a0_7, .bool a0_8, .int .i64 a0_9] 27 (0, 0)) (by (with_reducible repeat (first | refine blk_drewN ?_ _ | refine blk_drew ?_ | refine blk_alloc ?_ _)); exact BK110.out) hb); have n2_ := Aside0.mk (below_step (by repeat (first | (with_reducible first | exact HB.out | apply below_alloc | apply pw_below_drewN | apply below_drew1 | refine below_set ?_ GE110.out) | exact HB.out)) hb); clear HO_6; clear BK110; clear HB; have HO_6 := n0_; have BK110 := n1_; have HB := n2_; clear n0_ n1_ n2_; (try clear hb); (try clear hb2); (try clear hk); (try clear hi); have hcv29 := own_string (P := Tryd.prog) Tryd.underlying77 Tryd.underlying5 Tryd.underlying9 (Kd.own_of_R HO_6.out)))
              repeat (go_quiet (first | (go_at_call 16; (with_reducible refine (tabardref11_Locale_Grouped.calls k1 a0_0 a0_1 a0_2 a0_3 a0_4 a0_5 a0_6 a0_7 a0_8 a0_9 (strOfNums x6_1) t111 _ A23.out).mono ?_); rintro e w28 ⟨rfl, hb⟩; have n0_ := Aside0.mk (Kd.R_below (by (with_reducible repeat (first | apply Kd.R_alloc | apply Kd.R_drewN | apply Kd.R_drew)); exact HO_6.out) hb); have n1_ := Aside0.mk (blk_below (g := gb110) (o := .cells #[.string a0_0, .string a0_1, .string a0_2, .string a0_3, .string a0_4, .string a0_5, .string a0_6, .bool a0_7, .bool a0_8, .int .i64 a0_9] 27 (0, 0)) (by (with_reducible repeat (first | refine blk_drewN ?_ _ | refine blk_drew ?_ | refine blk_alloc ?_ _)); exact BK110.out) hb); have n2_ := Aside0.mk (below_step (by repeat (first | (with_reducible first | exact HB.out | apply below_alloc | apply pw_below_drewN | apply below_drew1 | refine below_set ?_ GE110.out) | exact HB.out)) hb); clear HO_6; clear BK110; clear HB; have HO_6 := n0_; have BK110 := n1_; have HB := n2_; clear n0_ n1_ n2_; (try clear hb); (try clear hb2); (try clear hk); (try clear hi); have hcv29 := own_string (P := Tryd.prog) Tryd.underlying77 Tryd.underlying5 Tryd.underlying9 (Kd.own_of_R HO_6.out))); try go_wp2_with (first | (go_at_call 16; (with_reducible refine (tabardref11_Locale_Grouped.calls k1 a0_0 a0_1 a0_2 a0_3 a0_4 a0_5 a0_6 a0_7 a0_8 a0_9 (strOfNums x6_1) t111 _ A23.out).mono ?_); rintro e w28 ⟨rfl, hb⟩; have n0_ := Aside0.mk (Kd.R_below (by (with_reducible repeat (first | apply Kd.R_alloc | apply Kd.R_drewN | apply Kd.R_drew)); exact HO_6.out) hb); have n1_ := Aside0.mk (blk_below (g := gb110) (o := .cells #[.string a0_0, .string a0_1, .string a0_2, .string a0_3, .string a0_4, .string a0_5, .string a0_6, .bool a0_7, .bool a0_8, .int .i64 a0_9] 27 (0, 0)) (by (with_reducible repeat (first | refine blk_drewN ?_ _ | refine blk_drew ?_ | refine blk_alloc ?_ _)); exact BK110.out) hb); have n2_ := Aside0.mk (below_step (by repeat (first | (with_reducible first | exact HB.out | apply below_alloc | apply pw_below_drewN | apply below_drew1 | refine below_set ?_ GE110.out) | exact HB.out)) hb); clear HO_6; clear BK110; clear HB; have HO_6 := n0_; have BK110 := n1_; have HB := n2_; clear n0_ n1_ n2_; (try clear hb); (try clear hb2); (try clear hk); (try clear hi); have hcv29 := own_string (P := Tryd.prog) Tryd.underlying77 Tryd.underlying5 Tryd.underlying9 (Kd.own_of_R HO_6.out))))
              go_ret2
              exact ⟨by first | rfl | (simp [errW_none, errW_some] <;> rfl) | (simp [*, errW_none, errW_some] <;> rfl), by repeat (first | (with_reducible first | exact HB.out | apply below_alloc | apply pw_below_drewN | apply below_drew1 | refine below_set ?_ GE110.out) | exact HB.out)⟩
            · rw [if_neg c24] at H
              have c24b0 : (t111.toList == a1.toList) = false := beq_eq_false_iff_ne.mpr c24
              have c24b1 : (t111.toList != a1.toList) = true := bne_iff_ne.mpr c24
              simp only [Option.some.injEq, Prod.mk.injEq] at H
              obtain ⟨rfl, rfl⟩ := H
              obtain ⟨Ao30, co30, eo30⟩ := Kd.R_slice HO_6.out
              subst eo30
              have hcz31_0 : wr.cell? ⟨gb110, 0, none⟩ = some (.string a0_0) := (blk_cell BK110.out 0).trans rfl
              have hcz31_1 : wr.cell? ⟨gb110, 1, none⟩ = some (.string a0_1) := (blk_cell BK110.out 1).trans rfl
              have hcz31_2 : wr.cell? ⟨gb110, 2, none⟩ = some (.string a0_2) := (blk_cell BK110.out 2).trans rfl
              have hcz31_3 : wr.cell? ⟨gb110, 3, none⟩ = some (.string a0_3) := (blk_cell BK110.out 3).trans rfl
              have hcz31_4 : wr.cell? ⟨gb110, 4, none⟩ = some (.string a0_4) := (blk_cell BK110.out 4).trans rfl
              have hcz31_5 : wr.cell? ⟨gb110, 5, none⟩ = some (.string a0_5) := (blk_cell BK110.out 5).trans rfl
              have hcz31_6 : wr.cell? ⟨gb110, 6, none⟩ = some (.string a0_6) := (blk_cell BK110.out 6).trans rfl
              have hcz31_7 : wr.cell? ⟨gb110, 7, none⟩ = some (.bool a0_7) := (blk_cell BK110.out 7).trans rfl
              have hcz31_8 : wr.cell? ⟨gb110, 8, none⟩ = some (.bool a0_8) := (blk_cell BK110.out 8).trans rfl
              have hcz31_9 : wr.cell? ⟨gb110, 9, none⟩ = some (.int .i64 a0_9) := (blk_cell BK110.out 9).trans rfl
              have hfz31_0 := blk_frozen BK110.out 0
              have hfz31_1 := blk_frozen BK110.out 1
              have hfz31_2 := blk_frozen BK110.out 2
              have hfz31_3 := blk_frozen BK110.out 3
              have hfz31_4 := blk_frozen BK110.out 4
              have hfz31_5 := blk_frozen BK110.out 5
              have hfz31_6 := blk_frozen BK110.out 6
              have hfz31_7 := blk_frozen BK110.out 7
              have hfz31_8 := blk_frozen BK110.out 8
              have hfz31_9 := blk_frozen BK110.out 9
              have hcv32 := own_string (P := Tryd.prog) Tryd.underlying77 Tryd.underlying5 Tryd.underlying9 (Kd.own_of_R HO_6.out)
              go_wp2_with (first | (go_at_call 16; (with_reducible refine (tabardref11_Locale_Grouped.calls k1 a0_0 a0_1 a0_2 a0_3 a0_4 a0_5 a0_6 a0_7 a0_8 a0_9 (strOfNums x6_1) t111 _ A23.out).mono ?_); rintro e w33 ⟨rfl, hb⟩; have n0_ := Aside0.mk (Kd.R_below (by (with_reducible repeat (first | apply Kd.R_alloc | apply Kd.R_drewN | apply Kd.R_drew)); exact HO_6.out) hb); have n1_ := Aside0.mk (blk_below (g := gb110) (o := .cells #[.string a0_0, .string a0_1, .string a0_2, .string a0_3, .string a0_4, .string a0_5, .string a0_6, .bool a0_7, .bool a0_8, .int .i64 a0_9] 27 (0, 0)) (by (with_reducible repeat (first | refine blk_drewN ?_ _ | refine blk_drew ?_ | refine blk_alloc ?_ _)); exact BK110.out) hb); have n2_ := Aside0.mk (below_step (by repeat (first | (with_reducible first | exact HB.out | apply below_alloc | apply pw_below_drewN | apply below_drew1 | refine below_set ?_ GE110.out) | exact HB.out)) hb); clear HO_6; clear BK110; clear HB; have HO_6 := n0_; have BK110 := n1_; have HB := n2_; clear n0_ n1_ n2_; (try clear hb); (try clear hb2); (try clear hk); (try clear hi)))
              repeat (go_quiet (first | (go_at_call 16; (with_reducible refine (tabardref11_Locale_Grouped.calls k1 a0_0 a0_1 a0_2 a0_3 a0_4 a0_5 a0_6 a0_7 a0_8 a0_9 (strOfNums x6_1) t111 _ A23.out).mono ?_); rintro e w33 ⟨rfl, hb⟩; have n0_ := Aside0.mk (Kd.R_below (by (with_reducible repeat (first | apply Kd.R_alloc | apply Kd.R_drewN | apply Kd.R_drew)); exact HO_6.out) hb); have n1_ := Aside0.mk (blk_below (g := gb110) (o := .cells #[.string a0_0, .string a0_1, .string a0_2, .string a0_3, .string a0_4, .string a0_5, .string a0_6, .bool a0_7, .bool a0_8, .int .i64 a0_9] 27 (0, 0)) (by (with_reducible repeat (first | refine blk_drewN ?_ _ | refine blk_drew ?_ | refine blk_alloc ?_ _)); exact BK110.out) hb); have n2_ := Aside0.mk (below_step (by repeat (first | (with_reducible first | exact HB.out | apply below_alloc | apply pw_below_drewN | apply below_drew1 | refine below_set ?_ GE110.out) | exact HB.out)) hb); clear HO_6; clear BK110; clear HB; have HO_6 := n0_; have BK110 := n1_; have HB := n2_; clear n0_ n1_ n2_; (try clear hb); (try clear hb2); (try clear hk); (try clear hi))); try go_wp2_with (first | (go_at_call 16; (with_reducible refine (tabardref11_Locale_Grouped.calls k1 a0_0 a0_1 a0_2 a0_3 a0_4 a0_5 a0_6 a0_7 a0_8 a0_9 (strOfNums x6_1) t111 _ A23.out).mono ?_); rintro e w33 ⟨rfl, hb⟩; have n0_ := Aside0.mk (Kd.R_below (by (with_reducible repeat (first | apply Kd.R_alloc | apply Kd.R_drewN | apply Kd.R_drew)); exact HO_6.out) hb); have n1_ := Aside0.mk (blk_below (g := gb110) (o := .cells #[.string a0_0, .string a0_1, .string a0_2, .string a0_3, .string a0_4, .string a0_5, .string a0_6, .bool a0_7, .bool a0_8, .int .i64 a0_9] 27 (0, 0)) (by (with_reducible repeat (first | refine blk_drewN ?_ _ | refine blk_drew ?_ | refine blk_alloc ?_ _)); exact BK110.out) hb); have n2_ := Aside0.mk (below_step (by repeat (first | (with_reducible first | exact HB.out | apply below_alloc | apply pw_below_drewN | apply below_drew1 | refine below_set ?_ GE110.out) | exact HB.out)) hb); clear HO_6; clear BK110; clear HB; have HO_6 := n0_; have BK110 := n1_; have HB := n2_; clear n0_ n1_ n2_; (try clear hb); (try clear hb2); (try clear hk); (try clear hi))))
              go_ret2
              exact ⟨by first | rfl | (simp [errW_none, errW_some] <;> rfl) | (simp [*, errW_none, errW_some] <;> rfl), by repeat (first | (with_reducible first | exact HB.out | apply below_alloc | apply pw_below_drewN | apply below_drew1 | refine below_set ?_ GE110.out) | exact HB.out)⟩
          · replace c22 := Bool.eq_false_iff.mpr c22
            subst c22
            have H1 : (some (strOfNums x6_1, true)) = some (r1, r2) := by rw [if_neg (show ¬ (false = true) by decide)] at H; exact H
            clear H
            have H := H1
            clear H1
            simp only [Option.some.injEq, Prod.mk.injEq] at H
            obtain ⟨rfl, rfl⟩ := H
            obtain ⟨Ao34, co34, eo34⟩ := Kd.R_slice HO_6.out
            subst eo34
            have hcv35 := own_string (P := Tryd.prog) Tryd.underlying77 Tryd.underlying5 Tryd.underlying9 (Kd.own_of_R HO_6.out)
            go_wp2
            repeat (go_quiet (fail); try go_wp2)
            go_ret2
            exact ⟨by first | rfl | (simp [errW_none, errW_some] <;> rfl) | (simp [*, errW_none, errW_some] <;> rfl), by repeat (first | (with_reducible first | exact HB.out | apply below_alloc | apply pw_below_drewN | apply below_drew1 | refine below_set ?_ GE110.out) | exact HB.out)⟩

-- taken with a contract of the session's own: function 79 (decimal_plain)

/-! ### stringslite_HasSuffix: function 109 -/
def stringslite_HasSuffix.f (a0 : ByteArray) (a1 : ByteArray) : Option (Bool) := if (a0.size : Int) ≥ (a1.size : Int) then (if 0 ≤ (wrap64 ((a0.size : Int) - (a1.size : Int))) then (if (wrap64 ((a0.size : Int) - (a1.size : Int))) ≤ (a0.size : Int) then (some ((a0.extract ((wrap64 ((a0.size : Int) - (a1.size : Int))) : Int).toNat a0.size).toList == a1.toList)) else (none)) else (none)) else (some false)
set_option maxHeartbeats 8000000 in
set_option maxRecDepth 100000 in
theorem stringslite_HasSuffix.calls (a0 : ByteArray) (a1 : ByteArray) (r : Bool) (w : World) (h : stringslite_HasSuffix.f a0 a1 = some r) :
    Calls Tryd.prog 109 #[.string a0, .string a1] w fun e w' => e = .returned (.bool r) ∧ Drawn0 w w' := by
  have H : (if (a0.size : Int) ≥ (a1.size : Int) then (if 0 ≤ (wrap64 ((a0.size : Int) - (a1.size : Int))) then (if (wrap64 ((a0.size : Int) - (a1.size : Int))) ≤ (a0.size : Int) then (some ((a0.extract ((wrap64 ((a0.size : Int) - (a1.size : Int))) : Int).toNat a0.size).toList == a1.toList)) else (none)) else (none)) else (some false)) = some r := h
  clear h
  by_cases c3 : (a0.size : Int) ≥ (a1.size : Int)
  · rw [if_pos c3] at H
    have c3b0 : decide ((a1.size : Int) ≤ (a0.size : Int)) = true := decide_eq_true c3
    have c3b1 : decide (a1.size ≤ a0.size) = true := decide_eq_true (Int.ofNat_le.mp c3)
    clear c3
    obtain ⟨ji4, hji4⟩ : ∃ j_ : Int, (wrap64 ((a0.size : Int) - (a1.size : Int))) = j_ := ⟨_, rfl⟩
    replace H : (if 0 ≤ (ji4) then (if (ji4) ≤ (a0.size : Int) then (some ((a0.extract ((ji4) : Int).toNat a0.size).toList == a1.toList)) else (none)) else (none)) = some r := by first | (rw [hji4] at H; exact H) | (simp only [hji4] at H ⊢; exact H)
    have hji4w : (IntKind.i64.wrap ((a0.size : Int) - (a1.size : Int))) = ji4 := (i64_w _).trans hji4
    by_cases c5 : 0 ≤ (ji4)
    · rw [if_pos c5] at H
      have c5b0 := eq_true c5
      have c5b1 : decide (0 ≤ (ji4)) = true := decide_eq_true c5
      clear c5
      by_cases c6 : (ji4) ≤ (a0.size : Int)
      · rw [if_pos c6] at H
        have c6b0 := eq_true c6
        have c6b1 : decide ((ji4) ≤ (a0.size : Int)) = true := decide_eq_true c6
        clear c6
        obtain rfl := Option.some.inj H
        go_enter Tryd.func109, Tryd.ntmps109
        go_wp2
        go_ret
        exact ⟨by first | rfl | (simp; done) | (simp only [← hji4] <;> (first | rfl | simp)) | (simp [*]; done) | (simp [bne]; done), by repeat (first | exact Drawn0.refl _ | apply Drawn0.step)⟩
      · rw [if_neg c6] at H
        exact absurd H (by simp)
    · rw [if_neg c5] at H
      exact absurd H (by simp)
  · rw [if_neg c3] at H
    have c3b0 : decide ((a1.size : Int) ≤ (a0.size : Int)) = false := decide_eq_false c3
    have c3b1 : decide (a1.size ≤ a0.size) = false := decide_eq_false (fun h => c3 (Int.ofNat_le.mpr h))
    clear c3
    obtain rfl := Option.some.inj H
    go_enter Tryd.func109, Tryd.ntmps109
    go_wp2
    go_ret
    exact ⟨by first | rfl | (simp; done) | (simp [*]; done) | (simp [bne]; done), by repeat (first | exact Drawn0.refl _ | apply Drawn0.step)⟩

/-! ### strings_HasSuffix: function 80 -/
def strings_HasSuffix.f (a0 : ByteArray) (a1 : ByteArray) : Option (Bool) := (stringslite_HasSuffix.f a0 a1).bind fun t116 => (some t116)
set_option maxHeartbeats 8000000 in
set_option maxRecDepth 100000 in
theorem strings_HasSuffix.calls (a0 : ByteArray) (a1 : ByteArray) (r : Bool) (w : World) (h : strings_HasSuffix.f a0 a1 = some r) :
    Calls Tryd.prog 80 #[.string a0, .string a1] w fun e w' => e = .returned (.bool r) ∧ Drawn0 w w' := by
  have H : ((stringslite_HasSuffix.f a0 a1).bind fun t116 => (some t116)) = some r := h
  clear h
  replace H := Option.bind_eq_some_iff.mp H
  obtain ⟨t116, A30, H⟩ := H
  replace H : (some t116) = some r := H
  have A3 := Aside0.mk A30
  clear A30
  obtain rfl := Option.some.inj H
  go_enter Tryd.func80, Tryd.ntmps80
  go_wp2_with (first | ((with_reducible refine gate_callee (f := 109) rfl ?_); refine goesL_ (some 7) rfl rfl Tryd.func109 (by kernel_rfl) rfl #[.string a0, .string a1] rfl (by (try simp only [List.map_toArray, List.map_cons, List.map_nil]); first | done | rfl | (simp only [List.length_drop, List.length_take]; rfl)) ?_; (with_reducible refine (stringslite_HasSuffix.calls a0 a1 t116 _ A3.out).mono ?_); rintro e w' ⟨rfl, ⟨nd, rfl⟩⟩; refine ⟨_, rfl, ?_⟩))
  go_ret
  exact ⟨by first | rfl | (simp; done) | (simp [*]; done) | (simp [bne]; done), by repeat (first | exact Drawn0.refl _ | apply Drawn0.step)⟩

/-! ### decimal_Right: function 45 -/
def decimal_Right.f (a0_0 : Bool) (a0_1 : ByteArray) (a0_2 : Int) : Option (Bool) := if a0_1.toList = ([] : List UInt8) then (some (a0_2 == 0)) else (if (a0_1.size : Int) ≤ 1100 then (if a0_2 ≥ (-100000) then (if a0_2 ≤ 100000 then ((decimal_plain.f a0_1).bind fun t118 => (if t118 = true then (if 0 < (a0_1.size : Int) then (if (bt a0_1 0) = 48 then (some false) else ((strings_HasSuffix.f a0_1 (⟨#[48]⟩ : ByteArray)).bind fun t119 => (some (!t119)))) else (none)) else (some false))) else (some false)) else (some false)) else (some false))
set_option maxHeartbeats 8000000 in
set_option maxRecDepth 100000 in
theorem decimal_Right.calls (a0_0 : Bool) (a0_1 : ByteArray) (a0_2 : Int) (r : Bool) (w : World) (h : decimal_Right.f a0_0 a0_1 a0_2 = some r) :
    Calls Tryd.prog 45 #[.agg #[.bool a0_0, .string a0_1, .int .i64 a0_2]] w fun e w' => e = .returned (.bool r) ∧ Below w.heap.size w w' := by
  have hu36 := Tryd.underlying36
  have HB := Aside0.mk (Below.refl w.heap.size w)
  have H : (if a0_1.toList = ([] : List UInt8) then (some (a0_2 == 0)) else (if (a0_1.size : Int) ≤ 1100 then (if a0_2 ≥ (-100000) then (if a0_2 ≤ 100000 then ((decimal_plain.f a0_1).bind fun t118 => (if t118 = true then (if 0 < (a0_1.size : Int) then (if (bt a0_1 0) = 48 then (some false) else ((strings_HasSuffix.f a0_1 (⟨#[48]⟩ : ByteArray)).bind fun t119 => (some (!t119)))) else (none)) else (some false))) else (some false)) else (some false)) else (some false))) = some r := h
  clear h
  by_cases c2 : a0_1.toList = ([] : List UInt8)
  · rw [if_pos c2] at H
    have c2b0 : (a0_1.toList == ([] : List UInt8)) = true := beq_iff_eq.mpr c2
    (try have c2b8 : a0_1.toList.isEmpty = true := by simpa using c2)
    have c2b1 : (a0_1.toList != ([] : List UInt8)) = false := bne_eq_false_iff_eq.mpr c2
    clear c2
    obtain rfl := Option.some.inj H
    go_enter Tryd.func45, Tryd.ntmps45
    go_wp2_with (first | ((with_reducible refine gate_dst (N := 1) rfl ?_); refine box_event ?hg (N := 1) ?hd (cs := #[.bool a0_0, .string a0_1, .int .i64 a0_2]) (t := 36) ?hr ?_; (case hd => rfl); (case hg => rfl); (case hr => first | (go_simp; done) | (go_simp; rfl)); intro gb117 hg w3 hbox hb; have n0_ := Aside0.mk (below_step (by repeat (first | (with_reducible first | exact HB.out | apply below_alloc | apply pw_below_drewN | apply below_drew1) | exact HB.out)) hb); have n1_ := Aside0.mk (hbox); have n2_ := Aside0.mk ((by rw [hg]; exact (below_size (by repeat (first | (with_reducible first | exact HB.out | apply below_alloc | apply pw_below_drewN | apply below_drew1) | exact HB.out))) : w.heap.size ≤ gb117)); have n3_ := Aside0.mk ((by rw [hg]; exact (below_size (by repeat (first | (with_reducible first | exact HB.out | apply below_alloc | apply pw_below_drewN | apply below_drew1) | exact HB.out))) : w.heap.size ≤ gb117)); clear HB; have HB := n0_; have BK117 := n1_; have GW117 := n2_; have GE117 := n3_; clear n0_ n1_ n2_ n3_; clear hb hbox hg; have hcz4_0 : w3.cell? ⟨gb117, 0, none⟩ = some (.bool a0_0) := (blk_cell BK117.out 0).trans rfl; have hcz4_1 : w3.cell? ⟨gb117, 1, none⟩ = some (.string a0_1) := (blk_cell BK117.out 1).trans rfl; have hcz4_2 : w3.cell? ⟨gb117, 2, none⟩ = some (.int .i64 a0_2) := (blk_cell BK117.out 2).trans rfl; have hfz4_0 := blk_frozen BK117.out 0; have hfz4_1 := blk_frozen BK117.out 1; have hfz4_2 := blk_frozen BK117.out 2))
    go_ret
    exact ⟨by first | rfl | (simp [errW_none, errW_some] <;> rfl) | (simp [*, errW_none, errW_some] <;> rfl), by repeat (first | (with_reducible first | exact HB.out | apply below_alloc | apply pw_below_drewN | apply below_drew1 | refine below_set ?_ GE117.out) | exact HB.out)⟩
  · rw [if_neg c2] at H
    have c2b0 : (a0_1.toList == ([] : List UInt8)) = false := beq_eq_false_iff_ne.mpr c2
    (try have c2b8 : a0_1.toList.isEmpty = false := by simpa using c2)
    have c2b1 : (a0_1.toList != ([] : List UInt8)) = true := bne_iff_ne.mpr c2
    by_cases c5 : (a0_1.size : Int) ≤ 1100
    · rw [if_pos c5] at H
      have c5b0 : decide ((a0_1.size : Int) ≤ 1100) = true := decide_eq_true c5
      have c5b1 : decide (a0_1.size ≤ 1100) = true := decide_eq_true (by omega)
      clear c5
      by_cases c6 : a0_2 ≥ (-100000)
      · rw [if_pos c6] at H
        have c6b0 : decide ((-100000) ≤ a0_2) = true := decide_eq_true c6
        clear c6
        by_cases c7 : a0_2 ≤ 100000
        · rw [if_pos c7] at H
          have c7b0 : decide (a0_2 ≤ 100000) = true := decide_eq_true c7
          clear c7
          replace H := Option.bind_eq_some_iff.mp H
          obtain ⟨t118, A80, H⟩ := H
          replace H : (if t118 = true then (if 0 < (a0_1.size : Int) then (if (bt a0_1 0) = 48 then (some false) else ((strings_HasSuffix.f a0_1 (⟨#[48]⟩ : ByteArray)).bind fun t119 => (some (!t119)))) else (none)) else (some false)) = some r := H
          have A8 := Aside0.mk A80
          clear A80
          by_cases c9 : t118 = true
          · subst c9
            have H1 : (if 0 < (a0_1.size : Int) then (if (bt a0_1 0) = 48 then (some false) else ((strings_HasSuffix.f a0_1 (⟨#[48]⟩ : ByteArray)).bind fun t119 => (some (!t119)))) else (none)) = some r := by rw [if_pos rfl] at H; exact H
            clear H
            have H := H1
            clear H1
            by_cases c10 : 0 < (a0_1.size : Int)
            · rw [if_pos c10] at H
              have c10b0 : decide (0 < (a0_1.size : Int)) = true := decide_eq_true c10
              have c10b1 : decide (0 < a0_1.size) = true := decide_eq_true (by omega)
              clear c10
              by_cases c12 : (bt a0_1 0) = 48
              · rw [if_pos c12] at H
                have c12b0 : ((bt a0_1 0) == 48) = true := beq_iff_eq.mpr c12
                have c12b1 : ((bt a0_1 0) != 48) = false := bne_eq_false_iff_eq.mpr c12
                clear c12
                obtain rfl := Option.some.inj H
                go_enter Tryd.func45, Tryd.ntmps45
                go_wp2_with (first | ((with_reducible refine gate_dst (N := 1) rfl ?_); refine box_event ?hg (N := 1) ?hd (cs := #[.bool a0_0, .string a0_1, .int .i64 a0_2]) (t := 36) ?hr ?_; (case hd => rfl); (case hg => rfl); (case hr => first | (go_simp; done) | (go_simp; rfl)); intro gb117 hg w13 hbox hb; have n0_ := Aside0.mk (below_step (by repeat (first | (with_reducible first | exact HB.out | apply below_alloc | apply pw_below_drewN | apply below_drew1) | exact HB.out)) hb); have n1_ := Aside0.mk (hbox); have n2_ := Aside0.mk ((by rw [hg]; exact (below_size (by repeat (first | (with_reducible first | exact HB.out | apply below_alloc | apply pw_below_drewN | apply below_drew1) | exact HB.out))) : w.heap.size ≤ gb117)); have n3_ := Aside0.mk ((by rw [hg]; exact (below_size (by repeat (first | (with_reducible first | exact HB.out | apply below_alloc | apply pw_below_drewN | apply below_drew1) | exact HB.out))) : w.heap.size ≤ gb117)); clear HB; have HB := n0_; have BK117 := n1_; have GW117 := n2_; have GE117 := n3_; clear n0_ n1_ n2_ n3_; clear hb hbox hg; have hcz14_0 : w13.cell? ⟨gb117, 0, none⟩ = some (.bool a0_0) := (blk_cell BK117.out 0).trans rfl; have hcz14_1 : w13.cell? ⟨gb117, 1, none⟩ = some (.string a0_1) := (blk_cell BK117.out 1).trans rfl; have hcz14_2 : w13.cell? ⟨gb117, 2, none⟩ = some (.int .i64 a0_2) := (blk_cell BK117.out 2).trans rfl; have hfz14_0 := blk_frozen BK117.out 0; have hfz14_1 := blk_frozen BK117.out 1; have hfz14_2 := blk_frozen BK117.out 2) | (go_at_call 79; (with_reducible refine (decimal_plain.calls a0_1 true _ A8.out).mono ?_); rintro e w15 ⟨rfl, hb⟩; have n0_ := Aside0.mk (blk_below (g := gb117) (o := .cells #[.bool a0_0, .string a0_1, .int .i64 a0_2] 36 (0, 0)) (by (with_reducible repeat (first | refine blk_drewN ?_ _ | refine blk_drew ?_ | refine blk_alloc ?_ _)); exact BK117.out) hb); have n1_ := Aside0.mk (below_step (by repeat (first | (with_reducible first | exact HB.out | apply below_alloc | apply pw_below_drewN | apply below_drew1 | refine below_set ?_ GE117.out) | exact HB.out)) hb); clear BK117; clear HB; have BK117 := n0_; have HB := n1_; clear n0_ n1_; (try clear hb); (try clear hb2); (try clear hk); (try clear hi); have hcz16_0 : w15.cell? ⟨gb117, 0, none⟩ = some (.bool a0_0) := (blk_cell BK117.out 0).trans rfl; have hcz16_1 : w15.cell? ⟨gb117, 1, none⟩ = some (.string a0_1) := (blk_cell BK117.out 1).trans rfl; have hcz16_2 : w15.cell? ⟨gb117, 2, none⟩ = some (.int .i64 a0_2) := (blk_cell BK117.out 2).trans rfl; have hfz16_0 := blk_frozen BK117.out 0; have hfz16_1 := blk_frozen BK117.out 1; have hfz16_2 := blk_frozen BK117.out 2; have p11 : 0 ≤ (0 : Int) := (by omega); have q11 : 0 < a0_1.size := (by have : (0 : Int) < (a0_1.size : Int) := of_decide_eq_true (by first | (with_reducible assumption) | assumption); omega); have hx11 : ∀ h : 0 < a0_1.size, ((a0_1[0]'h).toNat : Int) = bt a0_1 0 := bt_at a0_1 0; clear p11; have qi11 : (0 < (a0_1.size : Int)) = True := eq_true (of_decide_eq_true (by first | (with_reducible assumption) | assumption)); replace q11 := eq_true q11))
                go_ret
                exact ⟨by first | rfl | (simp [errW_none, errW_some] <;> rfl) | (simp [*, errW_none, errW_some] <;> rfl), by repeat (first | (with_reducible first | exact HB.out | apply below_alloc | apply pw_below_drewN | apply below_drew1 | refine below_set ?_ GE117.out) | exact HB.out)⟩
              · rw [if_neg c12] at H
                have c12b0 : ((bt a0_1 0) == 48) = false := beq_eq_false_iff_ne.mpr c12
                have c12b1 : ((bt a0_1 0) != 48) = true := bne_iff_ne.mpr c12
                replace H := Option.bind_eq_some_iff.mp H
                obtain ⟨t119, A170, H⟩ := H
                replace H : (some (!t119)) = some r := H
                have A17 := Aside0.mk A170
                clear A170
                obtain rfl := Option.some.inj H
                go_enter Tryd.func45, Tryd.ntmps45
                go_wp2_with (first | ((with_reducible refine gate_dst (N := 1) rfl ?_); refine box_event ?hg (N := 1) ?hd (cs := #[.bool a0_0, .string a0_1, .int .i64 a0_2]) (t := 36) ?hr ?_; (case hd => rfl); (case hg => rfl); (case hr => first | (go_simp; done) | (go_simp; rfl)); intro gb117 hg w18 hbox hb; have n0_ := Aside0.mk (below_step (by repeat (first | (with_reducible first | exact HB.out | apply below_alloc | apply pw_below_drewN | apply below_drew1) | exact HB.out)) hb); have n1_ := Aside0.mk (hbox); have n2_ := Aside0.mk ((by rw [hg]; exact (below_size (by repeat (first | (with_reducible first | exact HB.out | apply below_alloc | apply pw_below_drewN | apply below_drew1) | exact HB.out))) : w.heap.size ≤ gb117)); have n3_ := Aside0.mk ((by rw [hg]; exact (below_size (by repeat (first | (with_reducible first | exact HB.out | apply below_alloc | apply pw_below_drewN | apply below_drew1) | exact HB.out))) : w.heap.size ≤ gb117)); clear HB; have HB := n0_; have BK117 := n1_; have GW117 := n2_; have GE117 := n3_; clear n0_ n1_ n2_ n3_; clear hb hbox hg; have hcz19_0 : w18.cell? ⟨gb117, 0, none⟩ = some (.bool a0_0) := (blk_cell BK117.out 0).trans rfl; have hcz19_1 : w18.cell? ⟨gb117, 1, none⟩ = some (.string a0_1) := (blk_cell BK117.out 1).trans rfl; have hcz19_2 : w18.cell? ⟨gb117, 2, none⟩ = some (.int .i64 a0_2) := (blk_cell BK117.out 2).trans rfl; have hfz19_0 := blk_frozen BK117.out 0; have hfz19_1 := blk_frozen BK117.out 1; have hfz19_2 := blk_frozen BK117.out 2) | (go_at_call 79; (with_reducible refine (decimal_plain.calls a0_1 true _ A8.out).mono ?_); rintro e w20 ⟨rfl, hb⟩; have n0_ := Aside0.mk (blk_below (g := gb117) (o := .cells #[.bool a0_0, .string a0_1, .int .i64 a0_2] 36 (0, 0)) (by (with_reducible repeat (first | refine blk_drewN ?_ _ | refine blk_drew ?_ | refine blk_alloc ?_ _)); exact BK117.out) hb); have n1_ := Aside0.mk (below_step (by repeat (first | (with_reducible first | exact HB.out | apply below_alloc | apply pw_below_drewN | apply below_drew1 | refine below_set ?_ GE117.out) | exact HB.out)) hb); clear BK117; clear HB; have BK117 := n0_; have HB := n1_; clear n0_ n1_; (try clear hb); (try clear hb2); (try clear hk); (try clear hi); have hcz21_0 : w20.cell? ⟨gb117, 0, none⟩ = some (.bool a0_0) := (blk_cell BK117.out 0).trans rfl; have hcz21_1 : w20.cell? ⟨gb117, 1, none⟩ = some (.string a0_1) := (blk_cell BK117.out 1).trans rfl; have hcz21_2 : w20.cell? ⟨gb117, 2, none⟩ = some (.int .i64 a0_2) := (blk_cell BK117.out 2).trans rfl; have hfz21_0 := blk_frozen BK117.out 0; have hfz21_1 := blk_frozen BK117.out 1; have hfz21_2 := blk_frozen BK117.out 2; have p11 : 0 ≤ (0 : Int) := (by omega); have q11 : 0 < a0_1.size := (by have : (0 : Int) < (a0_1.size : Int) := of_decide_eq_true (by first | (with_reducible assumption) | assumption); omega); have hx11 : ∀ h : 0 < a0_1.size, ((a0_1[0]'h).toNat : Int) = bt a0_1 0 := bt_at a0_1 0; clear p11; have qi11 : (0 < (a0_1.size : Int)) = True := eq_true (of_decide_eq_true (by first | (with_reducible assumption) | assumption)); replace q11 := eq_true q11) | (go_at_call 80; (with_reducible refine (strings_HasSuffix.calls a0_1 (⟨#[48]⟩ : ByteArray) t119 _ A17.out).mono ?_); rintro e w' ⟨rfl, ⟨nd, rfl⟩⟩))
                go_ret
                exact ⟨by first | rfl | (simp [errW_none, errW_some] <;> rfl) | (simp [*, errW_none, errW_some] <;> rfl), by repeat (first | (with_reducible first | exact HB.out | apply below_alloc | apply pw_below_drewN | apply below_drew1 | refine below_set ?_ GE117.out) | exact HB.out)⟩
            · rw [if_neg c10] at H
              exact absurd H (by simp)
          · replace c9 := Bool.eq_false_iff.mpr c9
            subst c9
            have H1 : (some false) = some r := by rw [if_neg (show ¬ (false = true) by decide)] at H; exact H
            clear H
            have H := H1
            clear H1
            obtain rfl := Option.some.inj H
            go_enter Tryd.func45, Tryd.ntmps45
            go_wp2_with (first | ((with_reducible refine gate_dst (N := 1) rfl ?_); refine box_event ?hg (N := 1) ?hd (cs := #[.bool a0_0, .string a0_1, .int .i64 a0_2]) (t := 36) ?hr ?_; (case hd => rfl); (case hg => rfl); (case hr => first | (go_simp; done) | (go_simp; rfl)); intro gb117 hg w22 hbox hb; have n0_ := Aside0.mk (below_step (by repeat (first | (with_reducible first | exact HB.out | apply below_alloc | apply pw_below_drewN | apply below_drew1) | exact HB.out)) hb); have n1_ := Aside0.mk (hbox); have n2_ := Aside0.mk ((by rw [hg]; exact (below_size (by repeat (first | (with_reducible first | exact HB.out | apply below_alloc | apply pw_below_drewN | apply below_drew1) | exact HB.out))) : w.heap.size ≤ gb117)); have n3_ := Aside0.mk ((by rw [hg]; exact (below_size (by repeat (first | (with_reducible first | exact HB.out | apply below_alloc | apply pw_below_drewN | apply below_drew1) | exact HB.out))) : w.heap.size ≤ gb117)); clear HB; have HB := n0_; have BK117 := n1_; have GW117 := n2_; have GE117 := n3_; clear n0_ n1_ n2_ n3_; clear hb hbox hg; have hcz23_0 : w22.cell? ⟨gb117, 0, none⟩ = some (.bool a0_0) := (blk_cell BK117.out 0).trans rfl; have hcz23_1 : w22.cell? ⟨gb117, 1, none⟩ = some (.string a0_1) := (blk_cell BK117.out 1).trans rfl; have hcz23_2 : w22.cell? ⟨gb117, 2, none⟩ = some (.int .i64 a0_2) := (blk_cell BK117.out 2).trans rfl; have hfz23_0 := blk_frozen BK117.out 0; have hfz23_1 := blk_frozen BK117.out 1; have hfz23_2 := blk_frozen BK117.out 2) | (go_at_call 79; (with_reducible refine (decimal_plain.calls a0_1 false _ A8.out).mono ?_); rintro e w24 ⟨rfl, hb⟩; have n0_ := Aside0.mk (blk_below (g := gb117) (o := .cells #[.bool a0_0, .string a0_1, .int .i64 a0_2] 36 (0, 0)) (by (with_reducible repeat (first | refine blk_drewN ?_ _ | refine blk_drew ?_ | refine blk_alloc ?_ _)); exact BK117.out) hb); have n1_ := Aside0.mk (below_step (by repeat (first | (with_reducible first | exact HB.out | apply below_alloc | apply pw_below_drewN | apply below_drew1 | refine below_set ?_ GE117.out) | exact HB.out)) hb); clear BK117; clear HB; have BK117 := n0_; have HB := n1_; clear n0_ n1_; (try clear hb); (try clear hb2); (try clear hk); (try clear hi)))
            go_ret
            exact ⟨by first | rfl | (simp [errW_none, errW_some] <;> rfl) | (simp [*, errW_none, errW_some] <;> rfl), by repeat (first | (with_reducible first | exact HB.out | apply below_alloc | apply pw_below_drewN | apply below_drew1 | refine below_set ?_ GE117.out) | exact HB.out)⟩
        · rw [if_neg c7] at H
          have c7b0 : decide (a0_2 ≤ 100000) = false := decide_eq_false c7
          clear c7
          obtain rfl := Option.some.inj H
          go_enter Tryd.func45, Tryd.ntmps45
          go_wp2_with (first | ((with_reducible refine gate_dst (N := 1) rfl ?_); refine box_event ?hg (N := 1) ?hd (cs := #[.bool a0_0, .string a0_1, .int .i64 a0_2]) (t := 36) ?hr ?_; (case hd => rfl); (case hg => rfl); (case hr => first | (go_simp; done) | (go_simp; rfl)); intro gb117 hg w25 hbox hb; have n0_ := Aside0.mk (below_step (by repeat (first | (with_reducible first | exact HB.out | apply below_alloc | apply pw_below_drewN | apply below_drew1) | exact HB.out)) hb); have n1_ := Aside0.mk (hbox); have n2_ := Aside0.mk ((by rw [hg]; exact (below_size (by repeat (first | (with_reducible first | exact HB.out | apply below_alloc | apply pw_below_drewN | apply below_drew1) | exact HB.out))) : w.heap.size ≤ gb117)); have n3_ := Aside0.mk ((by rw [hg]; exact (below_size (by repeat (first | (with_reducible first | exact HB.out | apply below_alloc | apply pw_below_drewN | apply below_drew1) | exact HB.out))) : w.heap.size ≤ gb117)); clear HB; have HB := n0_; have BK117 := n1_; have GW117 := n2_; have GE117 := n3_; clear n0_ n1_ n2_ n3_; clear hb hbox hg; have hcz26_0 : w25.cell? ⟨gb117, 0, none⟩ = some (.bool a0_0) := (blk_cell BK117.out 0).trans rfl; have hcz26_1 : w25.cell? ⟨gb117, 1, none⟩ = some (.string a0_1) := (blk_cell BK117.out 1).trans rfl; have hcz26_2 : w25.cell? ⟨gb117, 2, none⟩ = some (.int .i64 a0_2) := (blk_cell BK117.out 2).trans rfl; have hfz26_0 := blk_frozen BK117.out 0; have hfz26_1 := blk_frozen BK117.out 1; have hfz26_2 := blk_frozen BK117.out 2))
          go_ret
          exact ⟨by first | rfl | (simp [errW_none, errW_some] <;> rfl) | (simp [*, errW_none, errW_some] <;> rfl), by repeat (first | (with_reducible first | exact HB.out | apply below_alloc | apply pw_below_drewN | apply below_drew1 | refine below_set ?_ GE117.out) | exact HB.out)⟩
      · rw [if_neg c6] at H
        have c6b0 : decide ((-100000) ≤ a0_2) = false := decide_eq_false c6
        clear c6
        obtain rfl := Option.some.inj H
        go_enter Tryd.func45, Tryd.ntmps45
        go_wp2_with (first | ((with_reducible refine gate_dst (N := 1) rfl ?_); refine box_event ?hg (N := 1) ?hd (cs := #[.bool a0_0, .string a0_1, .int .i64 a0_2]) (t := 36) ?hr ?_; (case hd => rfl); (case hg => rfl); (case hr => first | (go_simp; done) | (go_simp; rfl)); intro gb117 hg w27 hbox hb; have n0_ := Aside0.mk (below_step (by repeat (first | (with_reducible first | exact HB.out | apply below_alloc | apply pw_below_drewN | apply below_drew1) | exact HB.out)) hb); have n1_ := Aside0.mk (hbox); have n2_ := Aside0.mk ((by rw [hg]; exact (below_size (by repeat (first | (with_reducible first | exact HB.out | apply below_alloc | apply pw_below_drewN | apply below_drew1) | exact HB.out))) : w.heap.size ≤ gb117)); have n3_ := Aside0.mk ((by rw [hg]; exact (below_size (by repeat (first | (with_reducible first | exact HB.out | apply below_alloc | apply pw_below_drewN | apply below_drew1) | exact HB.out))) : w.heap.size ≤ gb117)); clear HB; have HB := n0_; have BK117 := n1_; have GW117 := n2_; have GE117 := n3_; clear n0_ n1_ n2_ n3_; clear hb hbox hg; have hcz28_0 : w27.cell? ⟨gb117, 0, none⟩ = some (.bool a0_0) := (blk_cell BK117.out 0).trans rfl; have hcz28_1 : w27.cell? ⟨gb117, 1, none⟩ = some (.string a0_1) := (blk_cell BK117.out 1).trans rfl; have hcz28_2 : w27.cell? ⟨gb117, 2, none⟩ = some (.int .i64 a0_2) := (blk_cell BK117.out 2).trans rfl; have hfz28_0 := blk_frozen BK117.out 0; have hfz28_1 := blk_frozen BK117.out 1; have hfz28_2 := blk_frozen BK117.out 2))
        go_ret
        exact ⟨by first | rfl | (simp [errW_none, errW_some] <;> rfl) | (simp [*, errW_none, errW_some] <;> rfl), by repeat (first | (with_reducible first | exact HB.out | apply below_alloc | apply pw_below_drewN | apply below_drew1 | refine below_set ?_ GE117.out) | exact HB.out)⟩
    · rw [if_neg c5] at H
      have c5b0 : decide ((a0_1.size : Int) ≤ 1100) = false := decide_eq_false c5
      have c5b1 : decide (a0_1.size ≤ 1100) = false := decide_eq_false (by omega)
      clear c5
      obtain rfl := Option.some.inj H
      go_enter Tryd.func45, Tryd.ntmps45
      go_wp2_with (first | ((with_reducible refine gate_dst (N := 1) rfl ?_); refine box_event ?hg (N := 1) ?hd (cs := #[.bool a0_0, .string a0_1, .int .i64 a0_2]) (t := 36) ?hr ?_; (case hd => rfl); (case hg => rfl); (case hr => first | (go_simp; done) | (go_simp; rfl)); intro gb117 hg w29 hbox hb; have n0_ := Aside0.mk (below_step (by repeat (first | (with_reducible first | exact HB.out | apply below_alloc | apply pw_below_drewN | apply below_drew1) | exact HB.out)) hb); have n1_ := Aside0.mk (hbox); have n2_ := Aside0.mk ((by rw [hg]; exact (below_size (by repeat (first | (with_reducible first | exact HB.out | apply below_alloc | apply pw_below_drewN | apply below_drew1) | exact HB.out))) : w.heap.size ≤ gb117)); have n3_ := Aside0.mk ((by rw [hg]; exact (below_size (by repeat (first | (with_reducible first | exact HB.out | apply below_alloc | apply pw_below_drewN | apply below_drew1) | exact HB.out))) : w.heap.size ≤ gb117)); clear HB; have HB := n0_; have BK117 := n1_; have GW117 := n2_; have GE117 := n3_; clear n0_ n1_ n2_ n3_; clear hb hbox hg; have hcz30_0 : w29.cell? ⟨gb117, 0, none⟩ = some (.bool a0_0) := (blk_cell BK117.out 0).trans rfl; have hcz30_1 : w29.cell? ⟨gb117, 1, none⟩ = some (.string a0_1) := (blk_cell BK117.out 1).trans rfl; have hcz30_2 : w29.cell? ⟨gb117, 2, none⟩ = some (.int .i64 a0_2) := (blk_cell BK117.out 2).trans rfl; have hfz30_0 := blk_frozen BK117.out 0; have hfz30_1 := blk_frozen BK117.out 1; have hfz30_2 := blk_frozen BK117.out 2))
      go_ret
      exact ⟨by first | rfl | (simp [errW_none, errW_some] <;> rfl) | (simp [*, errW_none, errW_some] <;> rfl), by repeat (first | (with_reducible first | exact HB.out | apply below_alloc | apply pw_below_drewN | apply below_drew1 | refine below_set ?_ GE117.out) | exact HB.out)⟩

/-! ### decimal_Point: function 77 -/
def decimal_Point.f (a0_0 : Bool) (a0_1 : ByteArray) (a0_2 : Int) : Option (Int) := (decimal_Right.f a0_0 a0_1 a0_2).bind fun t121 => (if t121 = true then (some (wrap64 ((a0_1.size : Int) + a0_2))) else (some 0))
set_option maxHeartbeats 8000000 in
set_option maxRecDepth 100000 in
theorem decimal_Point.calls (a0_0 : Bool) (a0_1 : ByteArray) (a0_2 : Int) (r : Int) (w : World) (h : decimal_Point.f a0_0 a0_1 a0_2 = some r) :
    Calls Tryd.prog 77 #[.agg #[.bool a0_0, .string a0_1, .int .i64 a0_2]] w fun e w' => e = .returned (.int .i64 r) ∧ Below w.heap.size w w' := by
  have hu36 := Tryd.underlying36
  have HB := Aside0.mk (Below.refl w.heap.size w)
  have H : ((decimal_Right.f a0_0 a0_1 a0_2).bind fun t121 => (if t121 = true then (some (wrap64 ((a0_1.size : Int) + a0_2))) else (some 0))) = some r := h
  clear h
  replace H := Option.bind_eq_some_iff.mp H
  obtain ⟨t121, A20, H⟩ := H
  replace H : (if t121 = true then (some (wrap64 ((a0_1.size : Int) + a0_2))) else (some 0)) = some r := H
  have A2 := Aside0.mk A20
  clear A20
  by_cases c3 : t121 = true
  · subst c3
    have H1 : (some (wrap64 ((a0_1.size : Int) + a0_2))) = some r := by rw [if_pos rfl] at H; exact H
    clear H
    have H := H1
    clear H1
    obtain rfl := Option.some.inj H
    go_enter Tryd.func77, Tryd.ntmps77
    go_wp2_with (first | ((with_reducible refine gate_dst (N := 1) rfl ?_); refine box_event ?hg (N := 1) ?hd (cs := #[.bool a0_0, .string a0_1, .int .i64 a0_2]) (t := 36) ?hr ?_; (case hd => rfl); (case hg => rfl); (case hr => first | (go_simp; done) | (go_simp; rfl)); intro gb120 hg w4 hbox hb; have n0_ := Aside0.mk (below_step (by repeat (first | (with_reducible first | exact HB.out | apply below_alloc | apply pw_below_drewN | apply below_drew1) | exact HB.out)) hb); have n1_ := Aside0.mk (hbox); have n2_ := Aside0.mk ((by rw [hg]; exact (below_size (by repeat (first | (with_reducible first | exact HB.out | apply below_alloc | apply pw_below_drewN | apply below_drew1) | exact HB.out))) : w.heap.size ≤ gb120)); have n3_ := Aside0.mk ((by rw [hg]; exact (below_size (by repeat (first | (with_reducible first | exact HB.out | apply below_alloc | apply pw_below_drewN | apply below_drew1) | exact HB.out))) : w.heap.size ≤ gb120)); clear HB; have HB := n0_; have BK120 := n1_; have GW120 := n2_; have GE120 := n3_; clear n0_ n1_ n2_ n3_; clear hb hbox hg; have hcz5_0 : w4.cell? ⟨gb120, 0, none⟩ = some (.bool a0_0) := (blk_cell BK120.out 0).trans rfl; have hcz5_1 : w4.cell? ⟨gb120, 1, none⟩ = some (.string a0_1) := (blk_cell BK120.out 1).trans rfl; have hcz5_2 : w4.cell? ⟨gb120, 2, none⟩ = some (.int .i64 a0_2) := (blk_cell BK120.out 2).trans rfl; have hfz5_0 := blk_frozen BK120.out 0; have hfz5_1 := blk_frozen BK120.out 1; have hfz5_2 := blk_frozen BK120.out 2) | ((with_reducible refine gate_callee (f := 45) rfl ?_); refine goesL_ (some 4) rfl rfl Tryd.func45 (by kernel_rfl) rfl #[.agg #[.bool a0_0, .string a0_1, .int .i64 a0_2]] rfl (by (try simp only [List.map_toArray, List.map_cons, List.map_nil]); first | done | rfl | (simp only [List.length_drop, List.length_take]; rfl)) ?_; (with_reducible refine (decimal_Right.calls a0_0 a0_1 a0_2 true _ A2.out).mono ?_); rintro e w6 ⟨rfl, hb⟩; refine ⟨_, rfl, ?_⟩; have n0_ := Aside0.mk (blk_below (g := gb120) (o := .cells #[.bool a0_0, .string a0_1, .int .i64 a0_2] 36 (0, 0)) (by (with_reducible repeat (first | refine blk_drewN ?_ _ | refine blk_drew ?_ | refine blk_alloc ?_ _)); exact BK120.out) hb); have n1_ := Aside0.mk (below_step (by repeat (first | (with_reducible first | exact HB.out | apply below_alloc | apply pw_below_drewN | apply below_drew1 | refine below_set ?_ GE120.out) | exact HB.out)) hb); clear BK120; clear HB; have BK120 := n0_; have HB := n1_; clear n0_ n1_; (try clear hb); (try clear hb2); (try clear hk); (try clear hi); have hcz7_0 : w6.cell? ⟨gb120, 0, none⟩ = some (.bool a0_0) := (blk_cell BK120.out 0).trans rfl; have hcz7_1 : w6.cell? ⟨gb120, 1, none⟩ = some (.string a0_1) := (blk_cell BK120.out 1).trans rfl; have hcz7_2 : w6.cell? ⟨gb120, 2, none⟩ = some (.int .i64 a0_2) := (blk_cell BK120.out 2).trans rfl; have hfz7_0 := blk_frozen BK120.out 0; have hfz7_1 := blk_frozen BK120.out 1; have hfz7_2 := blk_frozen BK120.out 2))
    go_ret
    exact ⟨by first | rfl | (simp [errW_none, errW_some] <;> rfl) | (simp [*, errW_none, errW_some] <;> rfl), by repeat (first | (with_reducible first | exact HB.out | apply below_alloc | apply pw_below_drewN | apply below_drew1 | refine below_set ?_ GE120.out) | exact HB.out)⟩
  · replace c3 := Bool.eq_false_iff.mpr c3
    subst c3
    have H1 : (some 0) = some r := by rw [if_neg (show ¬ (false = true) by decide)] at H; exact H
    clear H
    have H := H1
    clear H1
    obtain rfl := Option.some.inj H
    go_enter Tryd.func77, Tryd.ntmps77
    go_wp2_with (first | ((with_reducible refine gate_dst (N := 1) rfl ?_); refine box_event ?hg (N := 1) ?hd (cs := #[.bool a0_0, .string a0_1, .int .i64 a0_2]) (t := 36) ?hr ?_; (case hd => rfl); (case hg => rfl); (case hr => first | (go_simp; done) | (go_simp; rfl)); intro gb120 hg w8 hbox hb; have n0_ := Aside0.mk (below_step (by repeat (first | (with_reducible first | exact HB.out | apply below_alloc | apply pw_below_drewN | apply below_drew1) | exact HB.out)) hb); have n1_ := Aside0.mk (hbox); have n2_ := Aside0.mk ((by rw [hg]; exact (below_size (by repeat (first | (with_reducible first | exact HB.out | apply below_alloc | apply pw_below_drewN | apply below_drew1) | exact HB.out))) : w.heap.size ≤ gb120)); have n3_ := Aside0.mk ((by rw [hg]; exact (below_size (by repeat (first | (with_reducible first | exact HB.out | apply below_alloc | apply pw_below_drewN | apply below_drew1) | exact HB.out))) : w.heap.size ≤ gb120)); clear HB; have HB := n0_; have BK120 := n1_; have GW120 := n2_; have GE120 := n3_; clear n0_ n1_ n2_ n3_; clear hb hbox hg; have hcz9_0 : w8.cell? ⟨gb120, 0, none⟩ = some (.bool a0_0) := (blk_cell BK120.out 0).trans rfl; have hcz9_1 : w8.cell? ⟨gb120, 1, none⟩ = some (.string a0_1) := (blk_cell BK120.out 1).trans rfl; have hcz9_2 : w8.cell? ⟨gb120, 2, none⟩ = some (.int .i64 a0_2) := (blk_cell BK120.out 2).trans rfl; have hfz9_0 := blk_frozen BK120.out 0; have hfz9_1 := blk_frozen BK120.out 1; have hfz9_2 := blk_frozen BK120.out 2) | ((with_reducible refine gate_callee (f := 45) rfl ?_); refine goesL_ (some 4) rfl rfl Tryd.func45 (by kernel_rfl) rfl #[.agg #[.bool a0_0, .string a0_1, .int .i64 a0_2]] rfl (by (try simp only [List.map_toArray, List.map_cons, List.map_nil]); first | done | rfl | (simp only [List.length_drop, List.length_take]; rfl)) ?_; (with_reducible refine (decimal_Right.calls a0_0 a0_1 a0_2 false _ A2.out).mono ?_); rintro e w10 ⟨rfl, hb⟩; refine ⟨_, rfl, ?_⟩; have n0_ := Aside0.mk (blk_below (g := gb120) (o := .cells #[.bool a0_0, .string a0_1, .int .i64 a0_2] 36 (0, 0)) (by (with_reducible repeat (first | refine blk_drewN ?_ _ | refine blk_drew ?_ | refine blk_alloc ?_ _)); exact BK120.out) hb); have n1_ := Aside0.mk (below_step (by repeat (first | (with_reducible first | exact HB.out | apply below_alloc | apply pw_below_drewN | apply below_drew1 | refine below_set ?_ GE120.out) | exact HB.out)) hb); clear BK120; clear HB; have BK120 := n0_; have HB := n1_; clear n0_ n1_; (try clear hb); (try clear hb2); (try clear hk); (try clear hi)))
    go_ret
    exact ⟨by first | rfl | (simp [errW_none, errW_some] <;> rfl) | (simp [*, errW_none, errW_some] <;> rfl), by repeat (first | (with_reducible first | exact HB.out | apply below_alloc | apply pw_below_drewN | apply below_drew1 | refine below_set ?_ GE120.out) | exact HB.out)⟩

-- taken with a contract of the session's own: function 78 (strings_Repeat)

end Go.Proofs.YtmbhjogohfcjgaaDoor.L
