-- Laid by wip/tools/xprint.py, a program of this session's, over the kit's print. Lean checks it.
import Derived.Test.YtmbhjogohfcjgaaDoorP0
import Derived.Test.YtmbhjogohfcjgaaDoorP1
namespace Go.Proofs.YtmbhjogohfcjgaaDoor.P
open Go.RowKit Go.Proofs.YtmbhjogohfcjgaaDoorW.PrintWords Go.Proofs.YtmbhjogohfcjgaaDoorW.PrintLast Go.Proofs.YtmbhjogohfcjgaaDoorW.PrintMore
attribute [local go_sem] max2_int min2_int max_two min_two max_three min_three max_four min_four   -- for this text's walks alone
set_option linter.unusedVariables false
set_option linter.unusedSimpArgs false
def tabardref13_count.l0 : Nat → List (S98) → Int → Int → Int → Option (Int)
 | 0, _, _, _, _ => none
 | k + 1, x0, x1, x5, x6 => if x6 < (x0.length : Int) then (if 0 ≤ x6 then (if ((rd_T98 x0 x6).f0) = x1 then (tabardref13_count.l0 k x0 x1 (wrap64 (x5 + 1)) (wrap64 (x6 + 1))) else (tabardref13_count.l0 k x0 x1 x5 (wrap64 (x6 + 1)))) else (none)) else (some x5)
def tabardref13_count.f (k : Nat) (l0 : List (S98)) (a1 : Int) : Option (Int) := tabardref13_count.l0 k l0 a1 0 0
theorem tabardref13_count.mono_l : ∀ k, (∀ y0 y1 y2 y3, LeO (tabardref13_count.l0 k y0 y1 y2 y3) (tabardref13_count.l0 (k + 1) y0 y1 y2 y3))
 | 0 => fun _ _ _ _ r h => by simp [tabardref13_count.l0] at h
 | k + 1 => by
  have ih0 := tabardref13_count.mono_l k
  ·intro y0 y1 y2 y3
   unfold tabardref13_count.l0
   repeat' first
   | (with_reducible exact ih0 _ _ _ _)
   | (with_reducible exact LeO.refl _)
   | (with_reducible exact LeO.none _)
   | (with_reducible refine LeO.ite ?_ ?_)
   | (with_reducible refine LeO.bind ?_ (fun _ => ?_))
   | exact ih0 _ _ _ _
   | exact LeO.none _
   | refine LeO.ite ?_ ?_
   | refine LeO.bind ?_ (fun _ => ?_)
theorem tabardref13_count.mono : ∀ a0 a1 k, LeO (tabardref13_count.f k a0 a1) (tabardref13_count.f (k + 1) a0 a1) := by
 intro a0 a1 k
 have ih0 := tabardref13_count.mono_l k
 unfold tabardref13_count.f
 repeat' first
   | (with_reducible exact ih0 _ _ _ _)
   | (with_reducible exact LeO.refl _)
   | (with_reducible exact LeO.none _)
   | (with_reducible refine LeO.ite ?_ ?_)
   | (with_reducible refine LeO.bind ?_ (fun _ => ?_))
   | exact ih0 _ _ _ _
   | exact LeO.none _
   | refine LeO.ite ?_ ?_
   | refine LeO.bind ?_ (fun _ => ?_)
set_option maxHeartbeats 8000000 in
set_option maxRecDepth 100000 in
theorem tabardref13_count.calls (k : Nat) (A0 : Option Addr) (c0 : Nat) (l0 : List (S98)) (a1 : Int) (r : Int) (w : World) (hr0 : Kd.C k98 w A0 l0.length l0) (hc0 : l0.length ≤ c0) (h : tabardref13_count.f k l0 a1 = some r) :
  Calls Tryd.prog 57 #[.slice A0 l0.length c0, .int .i64 a1] w fun e w' => e = .returned (.int .i64 r) ∧ Drawn0 w w' := by
 have HR0 := Aside0.mk hr0
 have HC0 := Aside0.mk hc0
 clear hr0 hc0
 have H : (tabardref13_count.l0 k l0 a1 0 0) = some r := h
 clear h
 have H' := Aside0.mk H
 clear H
 go_enter Tryd.func57, Tryd.ntmps57
 go_wp2
 go_loopg [5, 6] k (fun kq v5 v6 w' => ∃ (x5_1 : Int) (x6_1 : Int), v5 = .int .i64 x5_1 ∧ v6 = .int .i64 x6_1 ∧ Aside0 (tabardref13_count.l0 kq l0 a1 x5_1 x6_1 = some r) ∧ Aside0 (kq ≤ k) ∧ Drawn0 w w')
 case atStart => exact ⟨(0), (0), Z5, Z5, H', ⟨Nat.le_refl _⟩, by repeat (first | exact Drawn0.refl _ | apply Drawn0.step)⟩
 case round =>
  clear H'
  try clear p2
  obtain ⟨x5_1, x6_1, rfl, rfl, HA, HK1, ⟨m1, rfl⟩⟩ := hrel
  cases gk with
  | zero => exact absurd HA.out (by simp [tabardref13_count.l0])
  | succ k1 =>
   have H := HA.out
   clear HA
   simp only [tabardref13_count.l0] at H
   by_cases c3 : x6_1 < (l0.length : Int)
   ·rw [if_pos c3] at H
    have c3b0 : decide (x6_1 < (l0.length : Int)) = true := decide_eq_true c3
    clear c3
    by_cases c4 : 0 ≤ x6_1
    ·rw [if_pos c4] at H
     have c4b0 : decide (0 ≤ x6_1) = true := decide_eq_true c4
     clear c4
     by_cases c5 : ((rd_T98 l0 x6_1).f0) = a1
     ·rw [if_pos c5] at H
      have c5b0 : (((rd_T98 l0 x6_1).f0) == a1) = true := beq_iff_eq.mpr c5
      have c5b1 : (((rd_T98 l0 x6_1).f0) != a1) = false := bne_eq_false_iff_eq.mpr c5
      clear c5
      have H' := Aside0.mk H
      clear H
      have p112 : 0 ≤ (x6_1 : Int) := of_decide_eq_true Z6
      have q112 : x6_1 < (l0.length : Int) := of_decide_eq_true Z6
      obtain ⟨ad112, e112, hx112_0, hx112_1⟩ := at_T98 HR0.out x6_1 p112 q112
      cases e112
      replace p112 := eq_true p112
      replace q112 := eq_true q112
      go_wp2
      go_roundg k1
      case measure => exact Z59
      case rel => exact ⟨(wrap64 (x5_1 + 1)), (wrap64 (x6_1 + 1)), Z5, Z5, H', ⟨by have := HK1.out; omega⟩, by repeat (first | exact Drawn0.refl _ | apply Drawn0.step)⟩
     ·rw [if_neg c5] at H
      have c5b0 : (((rd_T98 l0 x6_1).f0) == a1) = false := beq_eq_false_iff_ne.mpr c5
      have c5b1 : (((rd_T98 l0 x6_1).f0) != a1) = true := bne_iff_ne.mpr c5
      have H' := Aside0.mk H
      clear H
      have p112 : 0 ≤ (x6_1 : Int) := of_decide_eq_true Z6
      have q112 : x6_1 < (l0.length : Int) := of_decide_eq_true Z6
      obtain ⟨ad112, e112, hx112_0, hx112_1⟩ := at_T98 HR0.out x6_1 p112 q112
      cases e112
      replace p112 := eq_true p112
      replace q112 := eq_true q112
      go_wp2
      go_roundg k1
      case measure => exact Z59
      case rel => exact ⟨(x5_1), (wrap64 (x6_1 + 1)), Z5, Z5, H', ⟨by have := HK1.out; omega⟩, by repeat (first | exact Drawn0.refl _ | apply Drawn0.step)⟩
    ·rw [if_neg c4] at H
     exact Z33
   ·rw [if_neg c3] at H
    have c3b0 : decide (x6_1 < (l0.length : Int)) = false := decide_eq_false c3
    clear c3
    obtain rfl := Option.some.inj H
    go_wp2
    go_ret
    exact Z12
def tabardref13_fraction.j0 : Nat → List (S98) → Int → Bool → Option (Int)
 | 0, _, _, _ => none
 | k + 1, x0, x3, x33 => if x33 = true then (some 0) else (if 0 ≤ x3 then (if x3 ≤ (x0.length : Int) then ((tabardref13_count.f k (x0.drop (x3 : Int).toNat) 2).bind fun t123 => (if t123 < 1 then (some 0) else (if t123 > 4 then (some 0) else ((tabardref13_count.f k (x0.take (x3 : Int).toNat) 2).bind fun t128 => (if t128 > 30 then (some 0) else (some 4)))))) else (none)) else (none))
def tabardref13_fraction.f (k : Nat) (l0 : List (S98)) : Option (Int) := (tabardref13_at.f k l0 6).bind fun t113 => ((tabardref13_count.f k l0 6).bind fun t114 => (if t114 > 1 then (tabardref13_fraction.j0 k l0 t113 true) else (if t113 = 0 then (tabardref13_fraction.j0 k l0 t113 true) else (if 0 ≤ (wrap64 (t113 - 1)) then (if (wrap64 (t113 - 1)) < (l0.length : Int) then (if ((rd_T98 l0 (wrap64 (t113 - 1))).f0) = 2 then ((tabardref13_count.f k l0 3).bind fun t116 => ((tabardref13_count.f k l0 4).bind fun t117 => ((tabardref13_count.f k l0 5).bind fun t118 => (tabardref13_fraction.j0 k l0 t113 (decide ((wrap64 ((wrap64 (t116 + t117)) + t118)) > 0)))))) else (tabardref13_fraction.j0 k l0 t113 true)) else (none)) else (none)))))
theorem tabardref13_fraction.mono_l : ∀ k, (∀ y0 y1 y2, LeO (tabardref13_fraction.j0 k y0 y1 y2) (tabardref13_fraction.j0 (k + 1) y0 y1 y2))
 | 0 => fun _ _ _ r h => by simp [tabardref13_fraction.j0] at h
 | k + 1 => by
  have ih0 := tabardref13_fraction.mono_l k
  ·intro y0 y1 y2
   unfold tabardref13_fraction.j0
   repeat' first
   | (with_reducible exact ih0 _ _ _)
   | (with_reducible exact tabardref13_at.mono _ _ _)
   | (with_reducible exact tabardref13_count.mono _ _ _)
   | (with_reducible exact LeO.refl _)
   | (with_reducible exact LeO.none _)
   | (with_reducible refine LeO.ite ?_ ?_)
   | (with_reducible refine LeO.bind ?_ (fun _ => ?_))
   | exact ih0 _ _ _
   | exact tabardref13_at.mono _ _ _
   | exact tabardref13_count.mono _ _ _
   | exact LeO.none _
   | refine LeO.ite ?_ ?_
   | refine LeO.bind ?_ (fun _ => ?_)
theorem tabardref13_fraction.mono : ∀ a0 k, LeO (tabardref13_fraction.f k a0) (tabardref13_fraction.f (k + 1) a0) := by
 intro a0 k
 have ih0 := tabardref13_fraction.mono_l k
 unfold tabardref13_fraction.f
 repeat' first
   | (with_reducible exact ih0 _ _ _)
   | (with_reducible exact tabardref13_at.mono _ _ _)
   | (with_reducible exact tabardref13_count.mono _ _ _)
   | (with_reducible exact LeO.refl _)
   | (with_reducible exact LeO.none _)
   | (with_reducible refine LeO.ite ?_ ?_)
   | (with_reducible refine LeO.bind ?_ (fun _ => ?_))
   | exact ih0 _ _ _
   | exact tabardref13_at.mono _ _ _
   | exact tabardref13_count.mono _ _ _
   | exact LeO.none _
   | refine LeO.ite ?_ ?_
   | refine LeO.bind ?_ (fun _ => ?_)
set_option maxHeartbeats 8000000 in
set_option maxRecDepth 100000 in
theorem tabardref13_fraction.calls (k : Nat) (A0 : Option Addr) (c0 : Nat) (l0 : List (S98)) (r : Int) (w : World) (hr0 : Kd.C k98 w A0 l0.length l0) (hc0 : l0.length ≤ c0) (h : tabardref13_fraction.f k l0 = some r) :
  Calls Tryd.prog 58 #[.slice A0 l0.length c0] w fun e w' => e = .returned (.int .i64 r) ∧ Drawn0 w w' := by
 have HR0 := Aside0.mk hr0
 have HC0 := Aside0.mk hc0
 clear hr0 hc0
 have H : ((tabardref13_at.f k l0 6).bind fun t113 => ((tabardref13_count.f k l0 6).bind fun t114 => (if t114 > 1 then (tabardref13_fraction.j0 k l0 t113 true) else (if t113 = 0 then (tabardref13_fraction.j0 k l0 t113 true) else (if 0 ≤ (wrap64 (t113 - 1)) then (if (wrap64 (t113 - 1)) < (l0.length : Int) then (if ((rd_T98 l0 (wrap64 (t113 - 1))).f0) = 2 then ((tabardref13_count.f k l0 3).bind fun t116 => ((tabardref13_count.f k l0 4).bind fun t117 => ((tabardref13_count.f k l0 5).bind fun t118 => (tabardref13_fraction.j0 k l0 t113 (decide ((wrap64 ((wrap64 (t116 + t117)) + t118)) > 0)))))) else (tabardref13_fraction.j0 k l0 t113 true)) else (none)) else (none)))))) = some r := h
 clear h
 replace H := Option.bind_eq_some_iff.mp H
 obtain ⟨t113, A20, H⟩ := H
 replace H : ((tabardref13_count.f k l0 6).bind fun t114 => (if t114 > 1 then (tabardref13_fraction.j0 k l0 t113 true) else (if t113 = 0 then (tabardref13_fraction.j0 k l0 t113 true) else (if 0 ≤ (wrap64 (t113 - 1)) then (if (wrap64 (t113 - 1)) < (l0.length : Int) then (if ((rd_T98 l0 (wrap64 (t113 - 1))).f0) = 2 then ((tabardref13_count.f k l0 3).bind fun t116 => ((tabardref13_count.f k l0 4).bind fun t117 => ((tabardref13_count.f k l0 5).bind fun t118 => (tabardref13_fraction.j0 k l0 t113 (decide ((wrap64 ((wrap64 (t116 + t117)) + t118)) > 0)))))) else (tabardref13_fraction.j0 k l0 t113 true)) else (none)) else (none))))) = some r := H
 have A2 := Aside0.mk A20
 clear A20
 have HC3 := Aside0.mk H
 clear H
 go_enter Tryd.func58, Tryd.ntmps58
 go_upto_region 2 with (first | ((with_reducible refine gate_callee (f := 84) rfl ?_); refine goesL_ (some 6) rfl rfl Tryd.func84 (by kernel_rfl) rfl #[.slice A0 l0.length c0, .int .i64 6] rfl Z3 ?_; (with_reducible refine (tabardref13_at.calls k _ _ l0 6 t113 _ ?side1 ?side2 A2.out).mono ?_); (case side1 => exact Z19); (case side2 => exact HC0.out); rintro e w' ⟨rfl, ⟨nd, rfl⟩⟩; refine ⟨_, rfl, ?_⟩))
 (try simp only [Act.put, List.setIfInBounds_toArray, List.set_cons_zero, List.set_cons_succ])
 go_cut [33] (fun v33 wc => ∃ (kq : Nat) (x33_2 : Bool), v33 = .bool x33_2 ∧ Aside0 (tabardref13_fraction.j0 kq l0 t113 x33_2 = some r) ∧ Aside0 (kq ≤ k) ∧ Drawn0 w wc)
 case first =>
  have H := HC3.out
  clear HC3
  replace H := Option.bind_eq_some_iff.mp H
  obtain ⟨t114, A40, H⟩ := H
  replace H : (if t114 > 1 then (tabardref13_fraction.j0 k l0 t113 true) else (if t113 = 0 then (tabardref13_fraction.j0 k l0 t113 true) else (if 0 ≤ (wrap64 (t113 - 1)) then (if (wrap64 (t113 - 1)) < (l0.length : Int) then (if ((rd_T98 l0 (wrap64 (t113 - 1))).f0) = 2 then ((tabardref13_count.f k l0 3).bind fun t116 => ((tabardref13_count.f k l0 4).bind fun t117 => ((tabardref13_count.f k l0 5).bind fun t118 => (tabardref13_fraction.j0 k l0 t113 (decide ((wrap64 ((wrap64 (t116 + t117)) + t118)) > 0)))))) else (tabardref13_fraction.j0 k l0 t113 true)) else (none)) else (none)))) = some r := H
  have A4 := Aside0.mk A40
  clear A40
  by_cases c5 : t114 > 1
  ·rw [if_pos c5] at H
   have c5b0 : decide (1 < t114) = true := decide_eq_true c5
   clear c5
   (first | rw [c5b0] | (simp only [i64_w, i32_w]; rw [c5b0]) | skip)
   have H' := Aside0.mk H
   clear H
   go_wp2_with (first | ((with_reducible refine gate_callee (f := 57) rfl ?_); refine goesL_ (some 8) rfl rfl Tryd.func57 (by kernel_rfl) rfl #[.slice A0 l0.length c0, .int .i64 6] rfl Z3 ?_; (with_reducible refine (tabardref13_count.calls k _ _ l0 6 t114 _ ?side1 ?side2 A4.out).mono ?_); (case side1 => exact Z19); (case side2 => exact HC0.out); rintro e w' ⟨rfl, ⟨nd, rfl⟩⟩; refine ⟨_, rfl, ?_⟩))
   go_meet
   case rel => exact Z58
  ·rw [if_neg c5] at H
   have c5b0 : decide (1 < t114) = false := decide_eq_false c5
   clear c5
   (first | rw [c5b0] | (simp only [i64_w, i32_w]; rw [c5b0]) | skip)
   by_cases c6 : t113 = 0
   ·rw [if_pos c6] at H
    have c6b0 : (t113 == 0) = true := beq_iff_eq.mpr c6
    have c6b1 : (t113 != 0) = false := bne_eq_false_iff_eq.mpr c6
    clear c6
    have H' := Aside0.mk H
    clear H
    go_wp2_with (first | ((with_reducible refine gate_callee (f := 57) rfl ?_); refine goesL_ (some 8) rfl rfl Tryd.func57 (by kernel_rfl) rfl #[.slice A0 l0.length c0, .int .i64 6] rfl Z3 ?_; (with_reducible refine (tabardref13_count.calls k _ _ l0 6 t114 _ ?side1 ?side2 A4.out).mono ?_); (case side1 => exact Z19); (case side2 => exact HC0.out); rintro e w' ⟨rfl, ⟨nd, rfl⟩⟩; refine ⟨_, rfl, ?_⟩))
    go_meet
    case rel => exact Z58
   ·rw [if_neg c6] at H
    have c6b0 : (t113 == 0) = false := beq_eq_false_iff_ne.mpr c6
    have c6b1 : (t113 != 0) = true := bne_iff_ne.mpr c6
    obtain ⟨ji7, hji7⟩ : ∃ j_ : Int, (wrap64 (t113 - 1)) = j_ := ⟨_, rfl⟩
    replace H : (if 0 ≤ (ji7) then (if (ji7) < (l0.length : Int) then (if ((rd_T98 l0 (ji7)).f0) = 2 then ((tabardref13_count.f k l0 3).bind fun t116 => ((tabardref13_count.f k l0 4).bind fun t117 => ((tabardref13_count.f k l0 5).bind fun t118 => (tabardref13_fraction.j0 k l0 t113 (decide ((wrap64 ((wrap64 (t116 + t117)) + t118)) > 0)))))) else (tabardref13_fraction.j0 k l0 t113 true)) else (none)) else (none)) = some r := by first | (rw [hji7] at H; exact H) | (simp only [hji7] at H ⊢; exact H)
    (try rw [hji7] at A4)
    have hji7w : (IntKind.i64.wrap (t113 - 1)) = ji7 := (i64_w _).trans hji7
    by_cases c8 : 0 ≤ (ji7)
    ·rw [if_pos c8] at H
     have c8b0 : decide (0 ≤ (ji7)) = true := decide_eq_true c8
     clear c8
     by_cases c9 : (ji7) < (l0.length : Int)
     ·rw [if_pos c9] at H
      have c9b0 : decide ((ji7) < (l0.length : Int)) = true := decide_eq_true c9
      clear c9
      by_cases c10 : ((rd_T98 l0 (ji7)).f0) = 2
      ·rw [if_pos c10] at H
       have c10b0 : (((rd_T98 l0 (ji7)).f0) == 2) = true := beq_iff_eq.mpr c10
       have c10b1 : (((rd_T98 l0 (ji7)).f0) != 2) = false := bne_eq_false_iff_eq.mpr c10
       clear c10
       replace H := Option.bind_eq_some_iff.mp H
       obtain ⟨t116, A110, H⟩ := H
       replace H : ((tabardref13_count.f k l0 4).bind fun t117 => ((tabardref13_count.f k l0 5).bind fun t118 => (tabardref13_fraction.j0 k l0 t113 (decide ((wrap64 ((wrap64 (t116 + t117)) + t118)) > 0))))) = some r := H
       have A11 := Aside0.mk A110
       clear A110
       replace H := Option.bind_eq_some_iff.mp H
       obtain ⟨t117, A120, H⟩ := H
       replace H : ((tabardref13_count.f k l0 5).bind fun t118 => (tabardref13_fraction.j0 k l0 t113 (decide ((wrap64 ((wrap64 (t116 + t117)) + t118)) > 0)))) = some r := H
       have A12 := Aside0.mk A120
       clear A120
       replace H := Option.bind_eq_some_iff.mp H
       obtain ⟨t118, A130, H⟩ := H
       replace H : (tabardref13_fraction.j0 k l0 t113 (decide ((wrap64 ((wrap64 (t116 + t117)) + t118)) > 0))) = some r := H
       have A13 := Aside0.mk A130
       clear A130
       have H' := Aside0.mk H
       clear H
       go_wp2_with (first | ((with_reducible refine gate_callee (f := 57) rfl ?_); refine goesL_ (some 8) rfl rfl Tryd.func57 (by kernel_rfl) rfl #[.slice A0 l0.length c0, .int .i64 6] rfl Z3 ?_; (with_reducible refine (tabardref13_count.calls k _ _ l0 6 t114 _ ?side1 ?side2 A4.out).mono ?_); (case side1 => exact Z19); (case side2 => exact HC0.out); rintro e w' ⟨rfl, ⟨nd, rfl⟩⟩; refine ⟨_, rfl, ?_⟩; have p115 : 0 ≤ ((ji7) : Int) := of_decide_eq_true Z6; have q115 : (ji7) < (l0.length : Int) := of_decide_eq_true Z6; obtain ⟨ad115, e115, hx115_0, hx115_1⟩ := at_T98 HR0.out (ji7) p115 q115; cases e115; replace p115 := eq_true p115; replace q115 := eq_true q115) | (go_at_call 57; (with_reducible refine (tabardref13_count.calls k _ _ l0 3 t116 _ ?side1 ?side2 A11.out).mono ?_); (case side1 => exact Z19); (case side2 => exact HC0.out); rintro e w' ⟨rfl, ⟨nd, rfl⟩⟩) | (go_at_call 57; (with_reducible refine (tabardref13_count.calls k _ _ l0 4 t117 _ ?side1 ?side2 A12.out).mono ?_); (case side1 => exact Z19); (case side2 => exact HC0.out); rintro e w' ⟨rfl, ⟨nd, rfl⟩⟩) | (go_at_call 57; (with_reducible refine (tabardref13_count.calls k _ _ l0 5 t118 _ ?side1 ?side2 A13.out).mono ?_); (case side1 => exact Z19); (case side2 => exact HC0.out); rintro e w' ⟨rfl, ⟨nd, rfl⟩⟩))
       go_meet
       case rel => exact ⟨_, (decide ((wrap64 ((wrap64 (t116 + t117)) + t118)) > 0)), Z5, H', ⟨by first | omega | exact Nat.le_refl _⟩, by repeat (first | exact Drawn0.refl _ | apply Drawn0.step)⟩
      ·rw [if_neg c10] at H
       have c10b0 : (((rd_T98 l0 (ji7)).f0) == 2) = false := beq_eq_false_iff_ne.mpr c10
       have c10b1 : (((rd_T98 l0 (ji7)).f0) != 2) = true := bne_iff_ne.mpr c10
       have H' := Aside0.mk H
       clear H
       go_wp2_with (first | ((with_reducible refine gate_callee (f := 57) rfl ?_); refine goesL_ (some 8) rfl rfl Tryd.func57 (by kernel_rfl) rfl #[.slice A0 l0.length c0, .int .i64 6] rfl Z3 ?_; (with_reducible refine (tabardref13_count.calls k _ _ l0 6 t114 _ ?side1 ?side2 A4.out).mono ?_); (case side1 => exact Z19); (case side2 => exact HC0.out); rintro e w' ⟨rfl, ⟨nd, rfl⟩⟩; refine ⟨_, rfl, ?_⟩; have p115 : 0 ≤ ((ji7) : Int) := of_decide_eq_true Z6; have q115 : (ji7) < (l0.length : Int) := of_decide_eq_true Z6; obtain ⟨ad115, e115, hx115_0, hx115_1⟩ := at_T98 HR0.out (ji7) p115 q115; cases e115; replace p115 := eq_true p115; replace q115 := eq_true q115))
       go_meet
       case rel => exact Z58
     ·rw [if_neg c9] at H
      exact Z33
    ·rw [if_neg c8] at H
     exact Z33
 case rest =>
  clear HC3
  try clear c1
  try clear p1
  try clear q1
  try clear hx1
  try clear p2
  try clear c5
  try clear c5b0
  try clear c6
  try clear c6b0
  try clear c6b1
  try clear p6
  try clear c8
  try clear c8b0
  try clear c9
  try clear c9b0
  try clear c10
  try clear c10b0
  try clear c10b1
  try clear p11
  try clear q11
  try clear hx11
  try clear hx115_0
  try clear hx115_1
  try clear p115
  try clear q115
  obtain ⟨kq, x33_2, rfl, HA, HJ2, ⟨mc2, rfl⟩⟩ := hcut
  cases kq with
  | zero => exact absurd HA.out (by simp [tabardref13_fraction.j0])
  | succ kj2 =>
   have H := HA.out
   clear HA
   simp only [tabardref13_fraction.j0] at H
   by_cases c14 : x33_2 = true
   ·subst c14
    have H1 : (some 0) = some r := by rw [if_pos rfl] at H; exact H
    clear H
    have H := H1
    clear H1
    obtain rfl := Option.some.inj H
    go_wp2
    go_ret
    exact Z12
   ·replace c14 := Bool.eq_false_iff.mpr c14
    subst c14
    have H1 : (if 0 ≤ t113 then (if t113 ≤ (l0.length : Int) then ((tabardref13_count.f kj2 (l0.drop (t113 : Int).toNat) 2).bind fun t123 => (if t123 < 1 then (some 0) else (if t123 > 4 then (some 0) else ((tabardref13_count.f kj2 (l0.take (t113 : Int).toNat) 2).bind fun t128 => (if t128 > 30 then (some 0) else (some 4)))))) else (none)) else (none)) = some r := by rw [if_neg (show ¬ (false = true) by decide)] at H; exact H
    clear H
    have H := H1
    clear H1
    by_cases c15 : 0 ≤ t113
    ·rw [if_pos c15] at H
     have c15b0 := eq_true c15
     have c15b1 : decide (0 ≤ t113) = true := decide_eq_true c15
     clear c15
     by_cases c16 : t113 ≤ (l0.length : Int)
     ·rw [if_pos c16] at H
      have c16b0 := eq_true c16
      have c16b1 : decide (t113 ≤ (l0.length : Int)) = true := decide_eq_true c16
      clear c16
      obtain ⟨y119, hy119⟩ : ∃ y_ : List (S98), y_ = (l0.drop (t113 : Int).toNat) := ⟨_, rfl⟩
      replace H : ((tabardref13_count.f kj2 y119 2).bind fun t123 => (if t123 < 1 then (some 0) else (if t123 > 4 then (some 0) else ((tabardref13_count.f kj2 (l0.take (t113 : Int).toNat) 2).bind fun t128 => (if t128 > 30 then (some 0) else (some 4)))))) = some r := by first | (rw [hy119]; with_reducible exact H) | (have H2_ := (Option.bind_some _ _).symm.trans H; rw [hy119]; with_reducible exact H2_) | (have H2_ := (Option.bind_some _ _).symm.trans H; with_reducible exact H2_) | with_reducible exact H | (rw [hy119]; exact H) | exact H
      have Ny119 := Aside0.mk hy119
      clear hy119
      replace H := Option.bind_eq_some_iff.mp H
      obtain ⟨t123, A170, H⟩ := H
      replace H : (if t123 < 1 then (some 0) else (if t123 > 4 then (some 0) else ((tabardref13_count.f kj2 (l0.take (t113 : Int).toNat) 2).bind fun t128 => (if t128 > 30 then (some 0) else (some 4))))) = some r := H
      have A17 := Aside0.mk A170
      clear A170
      by_cases c18 : t123 < 1
      ·rw [if_pos c18] at H
       have c18b0 : decide (t123 < 1) = true := decide_eq_true c18
       clear c18
       obtain rfl := Option.some.inj H
       have q19 : (t113 : Int) ≤ ((l0.length : Int) : Int) := of_decide_eq_true Z6
       obtain ⟨i019, hi019, _, hsz19, _⟩ := info_parts info98
       have hroom19 : l0.length ≤ c0 := HC0.out
       have hC19 : Kd.C k98 _ A0 l0.length l0 := HR0.out
       have q019 : (0 : Int) ≤ (t113 : Int) := of_decide_eq_true Z6
       have hcut19 := cut_from (P := Tryd.prog) 64 98 .i64 Tryd.underlying64 hi019 2 hsz19 A0 l0.length c0 t113 q019 q19
       have hr19 := Kd.C_drop (m := (t113 : Int).toNat) (c := c0) hC19 (by omega) hroom19
       obtain ⟨A19, hA19⟩ : ∃ A1, A1 = (if c0 = (t113 : Int).toNat then A0 else (A0 : Option Addr).map (·.add ((t113 : Int).toNat * 2))) := ⟨_, rfl⟩
       obtain ⟨c19, hc19⟩ : ∃ c1, c1 = c0 - (t113 : Int).toNat := ⟨_, rfl⟩
       have hy19 : y119.length = l0.length - (t113 : Int).toNat := (by rw [Ny119.out, List.length_drop] <;> omega)
       rw [show (l0).drop (t113 : Int).toNat = y119 from Ny119.out.symm] at hr19
       replace hr19 : Kd.C k98 _ A19 y119.length y119 := (by rw [hA19]; exact hr19)
       rw [← hy19, ← hA19, ← hc19] at hcut19
       have HR122 := Aside0.mk hr19
       have HC122 := Aside0.mk (show y119.length ≤ c19 from by rw [hy19, hc19]; exact Nat.sub_le_sub_right hroom19 _)
       clear hr19 hC19 hroom19 hi019 hsz19 hc19
       have KY19 := Aside0.mk hy19
       have KA19 := Aside0.mk hA19
       clear hy19 hA19
       replace q19 := eq_true q19
       go_wp2_with (first | ((with_reducible refine gate_callee (f := 57) rfl ?_); refine goesL_ (some 37) rfl rfl Tryd.func57 (by kernel_rfl) rfl #[.slice A19 y119.length c19, .int .i64 2] rfl Z3 ?_; (with_reducible refine (tabardref13_count.calls kj2 _ _ y119 2 t123 _ ?side1 ?side2 A17.out).mono ?_); (case side1 => exact Z44); (case side2 => exact HC122.out); rintro e w' ⟨rfl, ⟨nd, rfl⟩⟩; refine ⟨_, rfl, ?_⟩))
       go_ret
       exact Z12
      ·rw [if_neg c18] at H
       have c18b0 : decide (t123 < 1) = false := decide_eq_false c18
       clear c18
       by_cases c20 : t123 > 4
       ·rw [if_pos c20] at H
        have c20b0 : decide (4 < t123) = true := decide_eq_true c20
        clear c20
        obtain rfl := Option.some.inj H
        have q21 : (t113 : Int) ≤ ((l0.length : Int) : Int) := of_decide_eq_true Z6
        obtain ⟨i021, hi021, _, hsz21, _⟩ := info_parts info98
        have hroom21 : l0.length ≤ c0 := HC0.out
        have hC21 : Kd.C k98 _ A0 l0.length l0 := HR0.out
        have q021 : (0 : Int) ≤ (t113 : Int) := of_decide_eq_true Z6
        have hcut21 := cut_from (P := Tryd.prog) 64 98 .i64 Tryd.underlying64 hi021 2 hsz21 A0 l0.length c0 t113 q021 q21
        have hr21 := Kd.C_drop (m := (t113 : Int).toNat) (c := c0) hC21 (by omega) hroom21
        obtain ⟨A21, hA21⟩ : ∃ A1, A1 = (if c0 = (t113 : Int).toNat then A0 else (A0 : Option Addr).map (·.add ((t113 : Int).toNat * 2))) := ⟨_, rfl⟩
        obtain ⟨c21, hc21⟩ : ∃ c1, c1 = c0 - (t113 : Int).toNat := ⟨_, rfl⟩
        have hy21 : y119.length = l0.length - (t113 : Int).toNat := (by rw [Ny119.out, List.length_drop] <;> omega)
        rw [show (l0).drop (t113 : Int).toNat = y119 from Ny119.out.symm] at hr21
        replace hr21 : Kd.C k98 _ A21 y119.length y119 := (by rw [hA21]; exact hr21)
        rw [← hy21, ← hA21, ← hc21] at hcut21
        have HR122 := Aside0.mk hr21
        have HC122 := Aside0.mk (show y119.length ≤ c21 from by rw [hy21, hc21]; exact Nat.sub_le_sub_right hroom21 _)
        clear hr21 hC21 hroom21 hi021 hsz21 hc21
        have KY21 := Aside0.mk hy21
        have KA21 := Aside0.mk hA21
        clear hy21 hA21
        replace q21 := eq_true q21
        go_wp2_with (first | ((with_reducible refine gate_callee (f := 57) rfl ?_); refine goesL_ (some 37) rfl rfl Tryd.func57 (by kernel_rfl) rfl #[.slice A21 y119.length c21, .int .i64 2] rfl Z3 ?_; (with_reducible refine (tabardref13_count.calls kj2 _ _ y119 2 t123 _ ?side1 ?side2 A17.out).mono ?_); (case side1 => exact Z44); (case side2 => exact HC122.out); rintro e w' ⟨rfl, ⟨nd, rfl⟩⟩; refine ⟨_, rfl, ?_⟩))
        go_ret
        exact Z12
       ·rw [if_neg c20] at H
        have c20b0 : decide (4 < t123) = false := decide_eq_false c20
        clear c20
        have c22b0 := eq_true (of_decide_eq_true Z6 : 0 ≤ t113)
        have c23b0 := eq_true (of_decide_eq_true Z6 : t113 ≤ (l0.length : Int))
        obtain ⟨y124, hy124⟩ : ∃ y_ : List (S98), y_ = (l0.take (t113 : Int).toNat) := ⟨_, rfl⟩
        replace H : ((tabardref13_count.f kj2 y124 2).bind fun t128 => (if t128 > 30 then (some 0) else (some 4))) = some r := by first | (rw [hy124]; with_reducible exact H) | (have H2_ := (Option.bind_some _ _).symm.trans H; rw [hy124]; with_reducible exact H2_) | (have H2_ := (Option.bind_some _ _).symm.trans H; with_reducible exact H2_) | with_reducible exact H | (rw [hy124]; exact H) | exact H
        have Ny124 := Aside0.mk hy124
        clear hy124
        replace H := Option.bind_eq_some_iff.mp H
        obtain ⟨t128, A240, H⟩ := H
        replace H : (if t128 > 30 then (some 0) else (some 4)) = some r := H
        have A24 := Aside0.mk A240
        clear A240
        by_cases c25 : t128 > 30
        ·rw [if_pos c25] at H
         have c25b0 : decide (30 < t128) = true := decide_eq_true c25
         clear c25
         obtain rfl := Option.some.inj H
         have q26 : (t113 : Int) ≤ ((l0.length : Int) : Int) := of_decide_eq_true Z6
         obtain ⟨i026, hi026, _, hsz26, _⟩ := info_parts info98
         have hroom26 : l0.length ≤ c0 := HC0.out
         have hC26 : Kd.C k98 _ A0 l0.length l0 := HR0.out
         have q026 : (0 : Int) ≤ (t113 : Int) := of_decide_eq_true Z6
         have hcut26 := cut_from (P := Tryd.prog) 64 98 .i64 Tryd.underlying64 hi026 2 hsz26 A0 l0.length c0 t113 q026 q26
         have hr26 := Kd.C_drop (m := (t113 : Int).toNat) (c := c0) hC26 (by omega) hroom26
         obtain ⟨A26, hA26⟩ : ∃ A1, A1 = (if c0 = (t113 : Int).toNat then A0 else (A0 : Option Addr).map (·.add ((t113 : Int).toNat * 2))) := ⟨_, rfl⟩
         obtain ⟨c26, hc26⟩ : ∃ c1, c1 = c0 - (t113 : Int).toNat := ⟨_, rfl⟩
         have hy26 : y119.length = l0.length - (t113 : Int).toNat := (by rw [Ny119.out, List.length_drop] <;> omega)
         rw [show (l0).drop (t113 : Int).toNat = y119 from Ny119.out.symm] at hr26
         replace hr26 : Kd.C k98 _ A26 y119.length y119 := (by rw [hA26]; exact hr26)
         rw [← hy26, ← hA26, ← hc26] at hcut26
         have HR122 := Aside0.mk hr26
         have HC122 := Aside0.mk (show y119.length ≤ c26 from by rw [hy26, hc26]; exact Nat.sub_le_sub_right hroom26 _)
         clear hr26 hC26 hroom26 hi026 hsz26 hc26
         have KY26 := Aside0.mk hy26
         have KA26 := Aside0.mk hA26
         clear hy26 hA26
         replace q26 := eq_true q26
         go_wp2_with (first | ((with_reducible refine gate_callee (f := 57) rfl ?_); refine goesL_ (some 37) rfl rfl Tryd.func57 (by kernel_rfl) rfl #[.slice A26 y119.length c26, .int .i64 2] rfl Z3 ?_; (with_reducible refine (tabardref13_count.calls kj2 _ _ y119 2 t123 _ ?side1 ?side2 A17.out).mono ?_); (case side1 => exact Z44); (case side2 => exact HC122.out); rintro e w' ⟨rfl, ⟨nd, rfl⟩⟩; refine ⟨_, rfl, ?_⟩; have q27 : (t113 : Int) ≤ ((l0.length : Int) : Int) := of_decide_eq_true Z6; obtain ⟨i027, hi027, _, hsz27, _⟩ := info_parts info98; have hroom27 : l0.length ≤ c0 := HC0.out; have hC27 : Kd.C k98 _ A0 l0.length l0 := HR0.out; have hcut27 := cut_to (P := Tryd.prog) 64 98 .i64 Tryd.underlying64 hi027 A0 l0.length c0 t113 (of_decide_eq_true Z6) q27 hroom27; have hr27 := Kd.C_take (m := (t113 : Int).toNat) hC27 (by omega); have hy27 : y124.length = (t113 : Int).toNat := (by rw [Ny124.out, List.length_take]; omega); rw [← Ny124.out] at hr27; rw [← hy27] at hcut27; have HR127 := Aside0.mk hr27; have HC127 := Aside0.mk (show y124.length ≤ c0 from by omega); clear hr27 hC27 hroom27 hi027 hsz27; have KY27 := Aside0.mk hy27; clear hy27; replace q27 := eq_true q27) | (go_at_call 57; (with_reducible refine (tabardref13_count.calls kj2 _ _ y124 2 t128 _ ?side1 ?side2 A24.out).mono ?_); (case side1 => repeat (first | exact HR127.out | (with_reducible refine Kd.C_alloc ?_ _) | (with_reducible refine Kd.C_drewN ?_ _) | (with_reducible refine Kd.C_drew ?_))); (case side2 => exact HC127.out); rintro e w' ⟨rfl, ⟨nd, rfl⟩⟩))
         go_ret
         exact Z12
        ·rw [if_neg c25] at H
         have c25b0 : decide (30 < t128) = false := decide_eq_false c25
         clear c25
         obtain rfl := Option.some.inj H
         have q28 : (t113 : Int) ≤ ((l0.length : Int) : Int) := of_decide_eq_true Z6
         obtain ⟨i028, hi028, _, hsz28, _⟩ := info_parts info98
         have hroom28 : l0.length ≤ c0 := HC0.out
         have hC28 : Kd.C k98 _ A0 l0.length l0 := HR0.out
         have q028 : (0 : Int) ≤ (t113 : Int) := of_decide_eq_true Z6
         have hcut28 := cut_from (P := Tryd.prog) 64 98 .i64 Tryd.underlying64 hi028 2 hsz28 A0 l0.length c0 t113 q028 q28
         have hr28 := Kd.C_drop (m := (t113 : Int).toNat) (c := c0) hC28 (by omega) hroom28
         obtain ⟨A28, hA28⟩ : ∃ A1, A1 = (if c0 = (t113 : Int).toNat then A0 else (A0 : Option Addr).map (·.add ((t113 : Int).toNat * 2))) := ⟨_, rfl⟩
         obtain ⟨c28, hc28⟩ : ∃ c1, c1 = c0 - (t113 : Int).toNat := ⟨_, rfl⟩
         have hy28 : y119.length = l0.length - (t113 : Int).toNat := (by rw [Ny119.out, List.length_drop] <;> omega)
         rw [show (l0).drop (t113 : Int).toNat = y119 from Ny119.out.symm] at hr28
         replace hr28 : Kd.C k98 _ A28 y119.length y119 := (by rw [hA28]; exact hr28)
         rw [← hy28, ← hA28, ← hc28] at hcut28
         have HR122 := Aside0.mk hr28
         have HC122 := Aside0.mk (show y119.length ≤ c28 from by rw [hy28, hc28]; exact Nat.sub_le_sub_right hroom28 _)
         clear hr28 hC28 hroom28 hi028 hsz28 hc28
         have KY28 := Aside0.mk hy28
         have KA28 := Aside0.mk hA28
         clear hy28 hA28
         replace q28 := eq_true q28
         go_wp2_with (first | ((with_reducible refine gate_callee (f := 57) rfl ?_); refine goesL_ (some 37) rfl rfl Tryd.func57 (by kernel_rfl) rfl #[.slice A28 y119.length c28, .int .i64 2] rfl Z3 ?_; (with_reducible refine (tabardref13_count.calls kj2 _ _ y119 2 t123 _ ?side1 ?side2 A17.out).mono ?_); (case side1 => exact Z44); (case side2 => exact HC122.out); rintro e w' ⟨rfl, ⟨nd, rfl⟩⟩; refine ⟨_, rfl, ?_⟩; have q29 : (t113 : Int) ≤ ((l0.length : Int) : Int) := of_decide_eq_true Z6; obtain ⟨i029, hi029, _, hsz29, _⟩ := info_parts info98; have hroom29 : l0.length ≤ c0 := HC0.out; have hC29 : Kd.C k98 _ A0 l0.length l0 := HR0.out; have hcut29 := cut_to (P := Tryd.prog) 64 98 .i64 Tryd.underlying64 hi029 A0 l0.length c0 t113 (of_decide_eq_true Z6) q29 hroom29; have hr29 := Kd.C_take (m := (t113 : Int).toNat) hC29 (by omega); have hy29 : y124.length = (t113 : Int).toNat := (by rw [Ny124.out, List.length_take]; omega); rw [← Ny124.out] at hr29; rw [← hy29] at hcut29; have HR127 := Aside0.mk hr29; have HC127 := Aside0.mk (show y124.length ≤ c0 from by omega); clear hr29 hC29 hroom29 hi029 hsz29; have KY29 := Aside0.mk hy29; clear hy29; replace q29 := eq_true q29) | (go_at_call 57; (with_reducible refine (tabardref13_count.calls kj2 _ _ y124 2 t128 _ ?side1 ?side2 A24.out).mono ?_); (case side1 => repeat (first | exact HR127.out | (with_reducible refine Kd.C_alloc ?_ _) | (with_reducible refine Kd.C_drewN ?_ _) | (with_reducible refine Kd.C_drew ?_))); (case side2 => exact HC127.out); rintro e w' ⟨rfl, ⟨nd, rfl⟩⟩))
         go_ret
         exact Z12
     ·rw [if_neg c16] at H
      exact Z33
    ·rw [if_neg c15] at H
     exact Z33
def tabardref13_beside.l0 : Nat → List (S98) → Int → Int → Option (Bool)
 | 0, _, _, _ => none
 | k + 1, x0, x3, x4 => if (wrap64 (x4 + 1)) < x3 then (if 0 ≤ x4 then (if x4 < (x0.length : Int) then (if ((rd_T98 x0 x4).f0) = 2 then (if 0 ≤ (wrap64 (x4 + 1)) then (if (wrap64 (x4 + 1)) < (x0.length : Int) then (if ((rd_T98 x0 (wrap64 (x4 + 1))).f0) = 2 then (some true) else (tabardref13_beside.l0 k x0 x3 (wrap64 (x4 + 1)))) else (none)) else (none)) else (tabardref13_beside.l0 k x0 x3 (wrap64 (x4 + 1)))) else (none)) else (none)) else (some false)
def tabardref13_beside.f (k : Nat) (l0 : List (S98)) : Option (Bool) := (tabardref13_WholeEnd.f k l0).bind fun t129 => (tabardref13_beside.l0 k l0 t129 0)
theorem tabardref13_beside.mono_l : ∀ k, (∀ y0 y1 y2, LeO (tabardref13_beside.l0 k y0 y1 y2) (tabardref13_beside.l0 (k + 1) y0 y1 y2))
 | 0 => fun _ _ _ r h => by simp [tabardref13_beside.l0] at h
 | k + 1 => by
  have ih0 := tabardref13_beside.mono_l k
  ·intro y0 y1 y2
   unfold tabardref13_beside.l0
   repeat' first
   | (with_reducible exact ih0 _ _ _)
   | (with_reducible exact tabardref13_WholeEnd.mono _ _)
   | (with_reducible exact LeO.refl _)
   | (with_reducible exact LeO.none _)
   | (with_reducible refine LeO.ite ?_ ?_)
   | (with_reducible refine LeO.bind ?_ (fun _ => ?_))
   | exact ih0 _ _ _
   | exact tabardref13_WholeEnd.mono _ _
   | exact LeO.none _
   | refine LeO.ite ?_ ?_
   | refine LeO.bind ?_ (fun _ => ?_)
theorem tabardref13_beside.mono : ∀ a0 k, LeO (tabardref13_beside.f k a0) (tabardref13_beside.f (k + 1) a0) := by
 intro a0 k
 have ih0 := tabardref13_beside.mono_l k
 unfold tabardref13_beside.f
 repeat' first
   | (with_reducible exact ih0 _ _ _)
   | (with_reducible exact tabardref13_WholeEnd.mono _ _)
   | (with_reducible exact LeO.refl _)
   | (with_reducible exact LeO.none _)
   | (with_reducible refine LeO.ite ?_ ?_)
   | (with_reducible refine LeO.bind ?_ (fun _ => ?_))
   | exact ih0 _ _ _
   | exact tabardref13_WholeEnd.mono _ _
   | exact LeO.none _
   | refine LeO.ite ?_ ?_
   | refine LeO.bind ?_ (fun _ => ?_)
set_option maxHeartbeats 8000000 in
set_option maxRecDepth 100000 in
theorem tabardref13_beside.calls (k : Nat) (A0 : Option Addr) (c0 : Nat) (l0 : List (S98)) (r : Bool) (w : World) (hr0 : Kd.C k98 w A0 l0.length l0) (hc0 : l0.length ≤ c0) (h : tabardref13_beside.f k l0 = some r) :
  Calls Tryd.prog 85 #[.slice A0 l0.length c0] w fun e w' => e = .returned (.bool r) ∧ Below w.heap.size w w' := by
 have HR0 := Aside0.mk hr0
 have HC0 := Aside0.mk hc0
 clear hr0 hc0
 have HB := Aside0.mk (Below.refl w.heap.size w)
 have H : ((tabardref13_WholeEnd.f k l0).bind fun t129 => (tabardref13_beside.l0 k l0 t129 0)) = some r := h
 clear h
 replace H := Option.bind_eq_some_iff.mp H
 obtain ⟨t129, A20, H⟩ := H
 replace H : (tabardref13_beside.l0 k l0 t129 0) = some r := H
 have A2 := Aside0.mk A20
 clear A20
 have H' := Aside0.mk H
 clear H
 go_enter Tryd.func85, Tryd.ntmps85
 go_wp2_with (first | ((with_reducible refine gate_callee (f := 64) rfl ?_); refine goesL_ (some 6) rfl rfl Tryd.func64 (by kernel_rfl) rfl #[.slice A0 l0.length c0] rfl Z3 ?_; (with_reducible refine (tabardref13_WholeEnd.calls k _ _ l0 t129 _ ?side1 ?side2 A2.out).mono ?_); (case side1 => exact Z19); (case side2 => exact HC0.out); rintro e w3 ⟨rfl, hb⟩; refine ⟨_, rfl, ?_⟩; have n0_ := Aside0.mk (below_step Z2 hb); clear HB; have HB := n0_; clear n0_; (try clear hb); (try clear hb2); (try clear hk); (try clear hi)))
 go_loopg [4] k (fun kq v4 w' => ∃ (x4_1 : Int), v4 = .int .i64 x4_1 ∧ Aside0 (tabardref13_beside.l0 kq l0 t129 x4_1 = some r) ∧ Aside0 (kq ≤ k) ∧ Aside0 (Below w.heap.size w w'))
 case atStart => exact Z65
 case round =>
  clear H'
  try clear p2
  obtain ⟨x4_1, rfl, HA, HK1, HB⟩ := hrel
  cases gk with
  | zero => exact absurd HA.out (by simp [tabardref13_beside.l0])
  | succ k1 =>
   have H := HA.out
   clear HA
   simp only [tabardref13_beside.l0] at H
   by_cases c4 : (wrap64 (x4_1 + 1)) < t129
   ·rw [if_pos c4] at H
    have c4b0 : decide ((wrap64 (x4_1 + 1)) < t129) = true := decide_eq_true c4
    clear c4
    by_cases c5 : 0 ≤ x4_1
    ·rw [if_pos c5] at H
     have c5b0 : decide (0 ≤ x4_1) = true := decide_eq_true c5
     clear c5
     by_cases c6 : x4_1 < (l0.length : Int)
     ·rw [if_pos c6] at H
      have c6b0 : decide (x4_1 < (l0.length : Int)) = true := decide_eq_true c6
      clear c6
      by_cases c7 : ((rd_T98 l0 x4_1).f0) = 2
      ·rw [if_pos c7] at H
       have c7b0 : (((rd_T98 l0 x4_1).f0) == 2) = true := beq_iff_eq.mpr c7
       have c7b1 : (((rd_T98 l0 x4_1).f0) != 2) = false := bne_eq_false_iff_eq.mpr c7
       clear c7
       obtain ⟨ji8, hji8⟩ : ∃ j_ : Int, (wrap64 (x4_1 + 1)) = j_ := ⟨_, rfl⟩
       replace H : (if 0 ≤ (ji8) then (if (ji8) < (l0.length : Int) then (if ((rd_T98 l0 (ji8)).f0) = 2 then (some true) else (tabardref13_beside.l0 k1 l0 t129 ji8)) else (none)) else (none)) = some r := by first | (rw [hji8] at H; exact H) | (simp only [hji8] at H ⊢; exact H)
       (try rw [hji8] at c4b0)
       have hji8w : (IntKind.i64.wrap (x4_1 + 1)) = ji8 := (i64_w _).trans hji8
       by_cases c9 : 0 ≤ (ji8)
       ·rw [if_pos c9] at H
        have c9b0 : decide (0 ≤ (ji8)) = true := decide_eq_true c9
        clear c9
        by_cases c10 : (ji8) < (l0.length : Int)
        ·rw [if_pos c10] at H
         have c10b0 : decide ((ji8) < (l0.length : Int)) = true := decide_eq_true c10
         clear c10
         by_cases c11 : ((rd_T98 l0 (ji8)).f0) = 2
         ·rw [if_pos c11] at H
          have c11b0 : (((rd_T98 l0 (ji8)).f0) == 2) = true := beq_iff_eq.mpr c11
          have c11b1 : (((rd_T98 l0 (ji8)).f0) != 2) = false := bne_eq_false_iff_eq.mpr c11
          clear c11
          obtain rfl := Option.some.inj H
          have p130 : 0 ≤ (x4_1 : Int) := of_decide_eq_true Z6
          have q130 : x4_1 < (l0.length : Int) := of_decide_eq_true Z6
          obtain ⟨ad130, e130, hx130_0, hx130_1⟩ := at_T98 HR0.out x4_1 p130 q130
          cases e130
          replace hx130_0 := (HB.out.cell (World.block_lt_of_cell? w _ hx130_0)).trans hx130_0
          replace hx130_1 := (HB.out.cell (World.block_lt_of_cell? w _ hx130_1)).trans hx130_1
          replace p130 := eq_true p130
          replace q130 := eq_true q130
          have p131 : 0 ≤ ((ji8) : Int) := of_decide_eq_true Z6
          have q131 : (ji8) < (l0.length : Int) := of_decide_eq_true Z6
          obtain ⟨ad131, e131, hx131_0, hx131_1⟩ := at_T98 HR0.out (ji8) p131 q131
          obtain rfl : ad130 = ad131 := (by injection e131)
          replace hx131_0 := (HB.out.cell (World.block_lt_of_cell? w _ hx131_0)).trans hx131_0
          replace hx131_1 := (HB.out.cell (World.block_lt_of_cell? w _ hx131_1)).trans hx131_1
          replace p131 := eq_true p131
          replace q131 := eq_true q131
          go_wp2
          go_ret
          exact ⟨by first | rfl | (simp [errW_none, errW_some] <;> rfl) | (simp only [← hji8]; first | rfl | (simp [errW_none, errW_some] <;> rfl)) | (simp [*, errW_none, errW_some] <;> rfl), by repeat (first | (with_reducible first | exact HB.out | apply below_alloc | apply pw_below_drewN | apply below_drew1) | exact HB.out)⟩
         ·rw [if_neg c11] at H
          have c11b0 : (((rd_T98 l0 (ji8)).f0) == 2) = false := beq_eq_false_iff_ne.mpr c11
          have c11b1 : (((rd_T98 l0 (ji8)).f0) != 2) = true := bne_iff_ne.mpr c11
          have H' := Aside0.mk H
          clear H
          have p130 : 0 ≤ (x4_1 : Int) := of_decide_eq_true Z6
          have q130 : x4_1 < (l0.length : Int) := of_decide_eq_true Z6
          obtain ⟨ad130, e130, hx130_0, hx130_1⟩ := at_T98 HR0.out x4_1 p130 q130
          cases e130
          replace hx130_0 := (HB.out.cell (World.block_lt_of_cell? w _ hx130_0)).trans hx130_0
          replace hx130_1 := (HB.out.cell (World.block_lt_of_cell? w _ hx130_1)).trans hx130_1
          replace p130 := eq_true p130
          replace q130 := eq_true q130
          have p131 : 0 ≤ ((ji8) : Int) := of_decide_eq_true Z6
          have q131 : (ji8) < (l0.length : Int) := of_decide_eq_true Z6
          obtain ⟨ad131, e131, hx131_0, hx131_1⟩ := at_T98 HR0.out (ji8) p131 q131
          obtain rfl : ad130 = ad131 := (by injection e131)
          replace hx131_0 := (HB.out.cell (World.block_lt_of_cell? w _ hx131_0)).trans hx131_0
          replace hx131_1 := (HB.out.cell (World.block_lt_of_cell? w _ hx131_1)).trans hx131_1
          replace p131 := eq_true p131
          replace q131 := eq_true q131
          go_wp2
          go_roundg k1
          case measure => exact Z59
          case rel => exact ⟨(ji8), (by first | rfl | (simp; done) | (simp only [← hji8] <;> (first | rfl | simp)) | (simp [*]; done) | (simp [bne]; done)), H', ⟨by have := HK1.out; omega⟩, ⟨by repeat (first | (with_reducible first | exact HB.out | apply below_alloc | apply pw_below_drewN | apply below_drew1) | exact HB.out)⟩⟩
        ·rw [if_neg c10] at H
         exact Z33
       ·rw [if_neg c9] at H
        exact Z33
      ·rw [if_neg c7] at H
       have c7b0 : (((rd_T98 l0 x4_1).f0) == 2) = false := beq_eq_false_iff_ne.mpr c7
       have c7b1 : (((rd_T98 l0 x4_1).f0) != 2) = true := bne_iff_ne.mpr c7
       have H' := Aside0.mk H
       clear H
       have p130 : 0 ≤ (x4_1 : Int) := of_decide_eq_true Z6
       have q130 : x4_1 < (l0.length : Int) := of_decide_eq_true Z6
       obtain ⟨ad130, e130, hx130_0, hx130_1⟩ := at_T98 HR0.out x4_1 p130 q130
       cases e130
       replace hx130_0 := (HB.out.cell (World.block_lt_of_cell? w _ hx130_0)).trans hx130_0
       replace hx130_1 := (HB.out.cell (World.block_lt_of_cell? w _ hx130_1)).trans hx130_1
       replace p130 := eq_true p130
       replace q130 := eq_true q130
       go_wp2
       go_roundg k1
       case measure => exact Z59
       case rel => exact ⟨(wrap64 (x4_1 + 1)), Z5, H', ⟨by have := HK1.out; omega⟩, ⟨by repeat (first | (with_reducible first | exact HB.out | apply below_alloc | apply pw_below_drewN | apply below_drew1) | exact HB.out)⟩⟩
     ·rw [if_neg c6] at H
      exact Z33
    ·rw [if_neg c5] at H
     exact Z33
   ·rw [if_neg c4] at H
    have c4b0 : decide ((wrap64 (x4_1 + 1)) < t129) = false := decide_eq_false c4
    clear c4
    obtain rfl := Option.some.inj H
    go_wp2
    go_ret
    exact Z15
end Go.Proofs.YtmbhjogohfcjgaaDoor.P
