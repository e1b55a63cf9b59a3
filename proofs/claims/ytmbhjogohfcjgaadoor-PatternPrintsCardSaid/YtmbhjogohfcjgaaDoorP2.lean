-- Laid by wip/tools/xprint.py, a program of this session's, over the kit's print. Lean checks it.
import Derived.Test.YtmbhjogohfcjgaaDoorP0
namespace Go.Proofs.YtmbhjogohfcjgaaDoor.P
open Go.RowKit Go.Proofs.YtmbhjogohfcjgaaDoorW.PrintWords Go.Proofs.YtmbhjogohfcjgaaDoorW.PrintLast Go.Proofs.YtmbhjogohfcjgaaDoorW.PrintMore
attribute [local go_sem] max2_int min2_int max_two min_two max_three min_three max_four min_four   -- for this text's walks alone
set_option linter.unusedVariables false
set_option linter.unusedSimpArgs false
mutual
def tabardref13_rune1.j2 : Nat → ByteArray → Int → Int → Int → Option (Int)
 | 0, _, _, _, _ => none
 | k + 1, x0, x4, x5, x6 => if x4 = 0 then (tabardref13_rune1.j3 k x0 x4 x5 x6 true) else (tabardref13_rune1.j3 k x0 x4 x5 x6 (decide ((x0.size : Int) < x4)))
def tabardref13_rune1.j3 : Nat → ByteArray → Int → Int → Int → Bool → Option (Int)
 | 0, _, _, _, _, _ => none
 | k + 1, x0, x4, x5, x6, x50 => if x50 = true then (some 0) else (tabardref13_rune1.l0 k x0 x4 x5 x6 1)
def tabardref13_rune1.l0 : Nat → ByteArray → Int → Int → Int → Int → Option (Int)
 | 0, _, _, _, _, _ => none
 | k + 1, x0, x4, x5, x6, x7 => if x7 < x4 then (if 0 ≤ x7 then (if x7 < (x0.size : Int) then (if (bt x0 x7) < 128 then (some 0) else (if (bt x0 x7) ≥ 192 then (some 0) else (tabardref13_rune1.l0 k x0 x4 x5 (wrap64 ((wrap64 ((wrap64 (64 * x6)) + (wrap64 (bt x0 x7)))) - 128)) (wrap64 (x7 + 1))))) else (none)) else (none)) else (if x6 < x5 then (some 0) else (if x6 > 1114111 then (some 0) else (if x6 ≥ 55296 then (if x6 < 57344 then (some 0) else (some x4)) else (some x4))))
def tabardref13_rune1.j0 : Nat → ByteArray → Int → Int → Int → Int → Bool → Option (Int)
 | 0, _, _, _, _, _, _ => none
 | k + 1, x0, x3, x4, x5, x6, x16 => if x16 = true then (tabardref13_rune1.j2 k x0 2 128 (wrap64 (x3 - 192))) else (if x3 ≥ 224 then (tabardref13_rune1.j1 k x0 x3 x4 x5 x6 (decide (x3 < 240))) else (tabardref13_rune1.j1 k x0 x3 x4 x5 x6 false))
def tabardref13_rune1.j1 : Nat → ByteArray → Int → Int → Int → Int → Bool → Option (Int)
 | 0, _, _, _, _, _, _ => none
 | k + 1, x0, x3, x4, x5, x6, x25 => if x25 = true then (tabardref13_rune1.j2 k x0 3 2048 (wrap64 (x3 - 224))) else (if x3 ≥ 240 then (if x3 < 245 then (tabardref13_rune1.j2 k x0 4 65536 (wrap64 (x3 - 240))) else (tabardref13_rune1.j2 k x0 x4 x5 x6)) else (tabardref13_rune1.j2 k x0 x4 x5 x6))
end
def tabardref13_rune1.f (k : Nat) (a0 : ByteArray) : Option (Int) := if a0.toList = ([] : List UInt8) then (some 0) else (if 0 < (a0.size : Int) then (if (wrap64 (bt a0 0)) < 128 then (some 1) else (if (wrap64 (bt a0 0)) ≥ 194 then (tabardref13_rune1.j0 k a0 (wrap64 (bt a0 0)) 0 0 0 (decide ((wrap64 (bt a0 0)) < 224))) else (tabardref13_rune1.j0 k a0 (wrap64 (bt a0 0)) 0 0 0 false))) else (none))
theorem tabardref13_rune1.mono_l : ∀ k, (∀ y0 y1 y2 y3, LeO (tabardref13_rune1.j2 k y0 y1 y2 y3) (tabardref13_rune1.j2 (k + 1) y0 y1 y2 y3)) ∧ (∀ y0 y1 y2 y3 y4, LeO (tabardref13_rune1.j3 k y0 y1 y2 y3 y4) (tabardref13_rune1.j3 (k + 1) y0 y1 y2 y3 y4)) ∧ (∀ y0 y1 y2 y3 y4, LeO (tabardref13_rune1.l0 k y0 y1 y2 y3 y4) (tabardref13_rune1.l0 (k + 1) y0 y1 y2 y3 y4)) ∧ (∀ y0 y1 y2 y3 y4 y5, LeO (tabardref13_rune1.j0 k y0 y1 y2 y3 y4 y5) (tabardref13_rune1.j0 (k + 1) y0 y1 y2 y3 y4 y5)) ∧ (∀ y0 y1 y2 y3 y4 y5, LeO (tabardref13_rune1.j1 k y0 y1 y2 y3 y4 y5) (tabardref13_rune1.j1 (k + 1) y0 y1 y2 y3 y4 y5))
 | 0 => ⟨fun _ _ _ _ r h => by simp [tabardref13_rune1.j2] at h, fun _ _ _ _ _ r h => by simp [tabardref13_rune1.j3] at h, fun _ _ _ _ _ r h => by simp [tabardref13_rune1.l0] at h, fun _ _ _ _ _ _ r h => by simp [tabardref13_rune1.j0] at h, fun _ _ _ _ _ _ r h => by simp [tabardref13_rune1.j1] at h⟩
 | k + 1 => by
  obtain ⟨ih0, ih1, ih2, ih3, ih4⟩ := tabardref13_rune1.mono_l k
  refine ⟨?_, ?_, ?_, ?_, ?_⟩
  ·intro y0 y1 y2 y3
   unfold tabardref13_rune1.j2
   repeat' first
   | (with_reducible exact ih0 _ _ _ _)
   | (with_reducible exact ih1 _ _ _ _ _)
   | (with_reducible exact ih2 _ _ _ _ _)
   | (with_reducible exact ih3 _ _ _ _ _ _)
   | (with_reducible exact ih4 _ _ _ _ _ _)
   | (with_reducible exact LeO.refl _)
   | (with_reducible exact LeO.none _)
   | (with_reducible refine LeO.ite ?_ ?_)
   | (with_reducible refine LeO.bind ?_ (fun _ => ?_))
   | exact ih0 _ _ _ _
   | exact ih1 _ _ _ _ _
   | exact ih2 _ _ _ _ _
   | exact ih3 _ _ _ _ _ _
   | exact ih4 _ _ _ _ _ _
   | exact LeO.none _
   | refine LeO.ite ?_ ?_
   | refine LeO.bind ?_ (fun _ => ?_)
  ·intro y0 y1 y2 y3 y4
   unfold tabardref13_rune1.j3
   repeat' first
   | (with_reducible exact ih0 _ _ _ _)
   | (with_reducible exact ih1 _ _ _ _ _)
   | (with_reducible exact ih2 _ _ _ _ _)
   | (with_reducible exact ih3 _ _ _ _ _ _)
   | (with_reducible exact ih4 _ _ _ _ _ _)
   | (with_reducible exact LeO.refl _)
   | (with_reducible exact LeO.none _)
   | (with_reducible refine LeO.ite ?_ ?_)
   | (with_reducible refine LeO.bind ?_ (fun _ => ?_))
   | exact ih0 _ _ _ _
   | exact ih1 _ _ _ _ _
   | exact ih2 _ _ _ _ _
   | exact ih3 _ _ _ _ _ _
   | exact ih4 _ _ _ _ _ _
   | exact LeO.none _
   | refine LeO.ite ?_ ?_
   | refine LeO.bind ?_ (fun _ => ?_)
  ·intro y0 y1 y2 y3 y4
   unfold tabardref13_rune1.l0
   repeat' first
   | (with_reducible exact ih0 _ _ _ _)
   | (with_reducible exact ih1 _ _ _ _ _)
   | (with_reducible exact ih2 _ _ _ _ _)
   | (with_reducible exact ih3 _ _ _ _ _ _)
   | (with_reducible exact ih4 _ _ _ _ _ _)
   | (with_reducible exact LeO.refl _)
   | (with_reducible exact LeO.none _)
   | (with_reducible refine LeO.ite ?_ ?_)
   | (with_reducible refine LeO.bind ?_ (fun _ => ?_))
   | exact ih0 _ _ _ _
   | exact ih1 _ _ _ _ _
   | exact ih2 _ _ _ _ _
   | exact ih3 _ _ _ _ _ _
   | exact ih4 _ _ _ _ _ _
   | exact LeO.none _
   | refine LeO.ite ?_ ?_
   | refine LeO.bind ?_ (fun _ => ?_)
  ·intro y0 y1 y2 y3 y4 y5
   unfold tabardref13_rune1.j0
   repeat' first
   | (with_reducible exact ih0 _ _ _ _)
   | (with_reducible exact ih1 _ _ _ _ _)
   | (with_reducible exact ih2 _ _ _ _ _)
   | (with_reducible exact ih3 _ _ _ _ _ _)
   | (with_reducible exact ih4 _ _ _ _ _ _)
   | (with_reducible exact LeO.refl _)
   | (with_reducible exact LeO.none _)
   | (with_reducible refine LeO.ite ?_ ?_)
   | (with_reducible refine LeO.bind ?_ (fun _ => ?_))
   | exact ih0 _ _ _ _
   | exact ih1 _ _ _ _ _
   | exact ih2 _ _ _ _ _
   | exact ih3 _ _ _ _ _ _
   | exact ih4 _ _ _ _ _ _
   | exact LeO.none _
   | refine LeO.ite ?_ ?_
   | refine LeO.bind ?_ (fun _ => ?_)
  ·intro y0 y1 y2 y3 y4 y5
   unfold tabardref13_rune1.j1
   repeat' first
   | (with_reducible exact ih0 _ _ _ _)
   | (with_reducible exact ih1 _ _ _ _ _)
   | (with_reducible exact ih2 _ _ _ _ _)
   | (with_reducible exact ih3 _ _ _ _ _ _)
   | (with_reducible exact ih4 _ _ _ _ _ _)
   | (with_reducible exact LeO.refl _)
   | (with_reducible exact LeO.none _)
   | (with_reducible refine LeO.ite ?_ ?_)
   | (with_reducible refine LeO.bind ?_ (fun _ => ?_))
   | exact ih0 _ _ _ _
   | exact ih1 _ _ _ _ _
   | exact ih2 _ _ _ _ _
   | exact ih3 _ _ _ _ _ _
   | exact ih4 _ _ _ _ _ _
   | exact LeO.none _
   | refine LeO.ite ?_ ?_
   | refine LeO.bind ?_ (fun _ => ?_)
theorem tabardref13_rune1.mono : ∀ a0 k, LeO (tabardref13_rune1.f k a0) (tabardref13_rune1.f (k + 1) a0) := by
 intro a0 k
 obtain ⟨ih0, ih1, ih2, ih3, ih4⟩ := tabardref13_rune1.mono_l k
 unfold tabardref13_rune1.f
 repeat' first
   | (with_reducible exact ih0 _ _ _ _)
   | (with_reducible exact ih1 _ _ _ _ _)
   | (with_reducible exact ih2 _ _ _ _ _)
   | (with_reducible exact ih3 _ _ _ _ _ _)
   | (with_reducible exact ih4 _ _ _ _ _ _)
   | (with_reducible exact LeO.refl _)
   | (with_reducible exact LeO.none _)
   | (with_reducible refine LeO.ite ?_ ?_)
   | (with_reducible refine LeO.bind ?_ (fun _ => ?_))
   | exact ih0 _ _ _ _
   | exact ih1 _ _ _ _ _
   | exact ih2 _ _ _ _ _
   | exact ih3 _ _ _ _ _ _
   | exact ih4 _ _ _ _ _ _
   | exact LeO.none _
   | refine LeO.ite ?_ ?_
   | refine LeO.bind ?_ (fun _ => ?_)
set_option maxHeartbeats 8000000 in
set_option maxRecDepth 100000 in
theorem tabardref13_rune1.calls (k : Nat) (a0 : ByteArray) (r : Int) (w : World) (h : tabardref13_rune1.f k a0 = some r) :
  Calls Tryd.prog 83 #[.string a0] w fun e w' => e = .returned (.int .i64 r) ∧ Drawn0 w w' := by
 have H : (if a0.toList = ([] : List UInt8) then (some 0) else (if 0 < (a0.size : Int) then (if (wrap64 (bt a0 0)) < 128 then (some 1) else (if (wrap64 (bt a0 0)) ≥ 194 then (tabardref13_rune1.j0 k a0 (wrap64 (bt a0 0)) 0 0 0 (decide ((wrap64 (bt a0 0)) < 224))) else (tabardref13_rune1.j0 k a0 (wrap64 (bt a0 0)) 0 0 0 false))) else (none))) = some r := h
 clear h
 by_cases c2 : a0.toList = ([] : List UInt8)
 ·rw [if_pos c2] at H
  have c2b0 : (a0.toList == ([] : List UInt8)) = true := beq_iff_eq.mpr c2
  (try have c2b8 : a0.toList.isEmpty = true := by simpa using c2)
  have c2b1 : (a0.toList != ([] : List UInt8)) = false := bne_eq_false_iff_eq.mpr c2
  clear c2
  obtain rfl := Option.some.inj H
  go_enter Tryd.func83, Tryd.ntmps83
  go_wp2
  go_ret
  exact Z12
 ·rw [if_neg c2] at H
  have c2b0 : (a0.toList == ([] : List UInt8)) = false := beq_eq_false_iff_ne.mpr c2
  (try have c2b8 : a0.toList.isEmpty = false := by simpa using c2)
  have c2b1 : (a0.toList != ([] : List UInt8)) = true := bne_iff_ne.mpr c2
  by_cases c3 : 0 < (a0.size : Int)
  ·rw [if_pos c3] at H
   have c3b0 : decide (0 < (a0.size : Int)) = true := decide_eq_true c3
   have c3b1 : decide (0 < a0.size) = true := decide_eq_true (by omega)
   clear c3
   have HC5 := Aside0.mk H
   clear H
   have p4 : 0 ≤ (0 : Int) := (by omega)
   have q4 : 0 < a0.size := (by have : (0 : Int) < (a0.size : Int) := of_decide_eq_true Z6; omega)
   have hx4 : ∀ h : 0 < a0.size, ((a0[0]'h).toNat : Int) = bt a0 0 := bt_at a0 0
   clear p4
   have qi4 : (0 < (a0.size : Int)) = True := eq_true (of_decide_eq_true Z6)
   replace q4 := eq_true q4
   go_enter Tryd.func83, Tryd.ntmps83
   go_upto_block 0 with (fail)
   go_cut [4, 5, 6] (fun v4 v5 v6 wc => ∃ (kq : Nat) (x4_4 : Int) (x5_4 : Int) (x6_4 : Int), v4 = .int .i64 x4_4 ∧ v5 = .int .i64 x5_4 ∧ v6 = .int .i64 x6_4 ∧ Aside0 (tabardref13_rune1.j2 kq a0 x4_4 x5_4 x6_4 = some r) ∧ Aside0 (kq ≤ k) ∧ Drawn0 w wc)
   case first =>
    have H := HC5.out
    clear HC5
    by_cases c6 : (wrap64 (bt a0 0)) < 128
    ·rw [if_pos c6] at H
     have c6b0 : decide ((wrap64 (bt a0 0)) < 128) = true := decide_eq_true c6
     clear c6
     (first | rw [c6b0] | (simp only [i64_w, i32_w]; rw [c6b0]) | skip)
     obtain rfl := Option.some.inj H
     go_wp2
     go_ret
     exact Z12
    ·rw [if_neg c6] at H
     have c6b0 : decide ((wrap64 (bt a0 0)) < 128) = false := decide_eq_false c6
     clear c6
     (first | rw [c6b0] | (simp only [i64_w, i32_w]; rw [c6b0]) | skip)
     have HC7 := Aside0.mk H
     clear H
     go_upto_region 9 with (fail)
     go_cut [16] (fun v16 wc => ∃ (kq : Nat) (x16_6 : Bool), v16 = .bool x16_6 ∧ Aside0 (tabardref13_rune1.j0 kq a0 (wrap64 (bt a0 0)) 0 0 0 x16_6 = some r) ∧ Aside0 (kq ≤ k) ∧ Drawn0 w wc)
     case first =>
      have H := HC7.out
      clear HC7
      by_cases c8 : (wrap64 (bt a0 0)) ≥ 194
      ·rw [if_pos c8] at H
       have c8b0 : decide (194 ≤ (wrap64 (bt a0 0))) = true := decide_eq_true c8
       clear c8
       (first | rw [c8b0] | (simp only [i64_w, i32_w]; rw [c8b0]) | skip)
       have H' := Aside0.mk H
       clear H
       go_wp2
       go_meet
       case rel => exact ⟨_, (decide ((wrap64 (bt a0 0)) < 224)), Z5, H', ⟨by first | omega | exact Nat.le_refl _⟩, by repeat (first | exact Drawn0.refl _ | apply Drawn0.step)⟩
      ·rw [if_neg c8] at H
       have c8b0 : decide (194 ≤ (wrap64 (bt a0 0))) = false := decide_eq_false c8
       clear c8
       (first | rw [c8b0] | (simp only [i64_w, i32_w]; rw [c8b0]) | skip)
       have H' := Aside0.mk H
       clear H
       go_wp2
       go_meet
       case rel => exact ⟨_, (false), Z5, H', ⟨by first | omega | exact Nat.le_refl _⟩, by repeat (first | exact Drawn0.refl _ | apply Drawn0.step)⟩
     case rest =>
      clear HC7
      try clear c2
      try clear c2b0
      try clear c2b1
      try clear p2
      try clear c3
      try clear c3b0
      try clear c3b1
      try clear p4
      try clear q4
      try clear hx4
      try clear qi4
      try clear c6
      try clear c6b0
      try clear p6
      try clear c8
      try clear c8b0
      try clear p4
      try clear q4
      obtain ⟨kq, x16_6, rfl, HA, HJ6, ⟨mc6, rfl⟩⟩ := hcut
      cases kq with
      | zero => exact absurd HA.out (by simp [tabardref13_rune1.j0])
      | succ kj6 =>
       have H := HA.out
       clear HA
       simp only [tabardref13_rune1.j0] at H
       by_cases c9 : x16_6 = true
       ·subst c9
        have H1 : (tabardref13_rune1.j2 kj6 a0 2 128 (wrap64 ((wrap64 (bt a0 0)) - 192))) = some r := by rw [if_pos rfl] at H; exact H
        clear H
        have H := H1
        clear H1
        have H' := Aside0.mk H
        clear H
        go_wp2
        go_meet
        case rel => exact ⟨_, (2), (128), (wrap64 ((wrap64 (bt a0 0)) - 192)), Z5, Z5, Z5, H', ⟨by have := HJ6.out; first | omega | exact Nat.le_refl _⟩, by repeat (first | exact Drawn0.refl _ | apply Drawn0.step)⟩
       ·replace c9 := Bool.eq_false_iff.mpr c9
        subst c9
        have H1 : (if (wrap64 (bt a0 0)) ≥ 224 then (tabardref13_rune1.j1 kj6 a0 (wrap64 (bt a0 0)) 0 0 0 (decide ((wrap64 (bt a0 0)) < 240))) else (tabardref13_rune1.j1 kj6 a0 (wrap64 (bt a0 0)) 0 0 0 false)) = some r := by rw [if_neg (show ¬ (false = true) by decide)] at H; exact H
        clear H
        have H := H1
        clear H1
        have HC10 := Aside0.mk H
        clear H
        go_upto_region 13 with (fail)
        go_cut [25] (fun v25 wc => ∃ (kq : Nat) (x25_9 : Bool), v25 = .bool x25_9 ∧ Aside0 (tabardref13_rune1.j1 kq a0 (wrap64 (bt a0 0)) 0 0 0 x25_9 = some r) ∧ Aside0 (kq ≤ kj6) ∧ Drawn0 w wc)
        case first =>
         have H := HC10.out
         clear HC10
         by_cases c11 : (wrap64 (bt a0 0)) ≥ 224
         ·rw [if_pos c11] at H
          have c11b0 : decide (224 ≤ (wrap64 (bt a0 0))) = true := decide_eq_true c11
          clear c11
          (first | rw [c11b0] | (simp only [i64_w, i32_w]; rw [c11b0]) | skip)
          have H' := Aside0.mk H
          clear H
          go_wp2
          go_meet
          case rel => exact ⟨_, (decide ((wrap64 (bt a0 0)) < 240)), Z5, H', ⟨by have := HJ6.out; first | omega | exact Nat.le_refl _⟩, by repeat (first | exact Drawn0.refl _ | apply Drawn0.step)⟩
         ·rw [if_neg c11] at H
          have c11b0 : decide (224 ≤ (wrap64 (bt a0 0))) = false := decide_eq_false c11
          clear c11
          (first | rw [c11b0] | (simp only [i64_w, i32_w]; rw [c11b0]) | skip)
          have H' := Aside0.mk H
          clear H
          go_wp2
          go_meet
          case rel => exact ⟨_, (false), Z5, H', ⟨by have := HJ6.out; first | omega | exact Nat.le_refl _⟩, by repeat (first | exact Drawn0.refl _ | apply Drawn0.step)⟩
        case rest =>
         clear HC10
         try clear c1
         try clear c2
         try clear c2b0
         try clear c2b1
         try clear p2
         try clear c3
         try clear c3b0
         try clear c3b1
         try clear p4
         try clear q4
         try clear hx4
         try clear qi4
         try clear c6
         try clear c6b0
         try clear p6
         try clear c8
         try clear c8b0
         try clear c9
         try clear c11
         try clear c11b0
         try clear p2
         try clear p4
         try clear p6
         try clear q4
         obtain ⟨kq, x25_9, rfl, HA, HJ9, ⟨mc9, rfl⟩⟩ := hcut
         cases kq with
         | zero => exact absurd HA.out (by simp [tabardref13_rune1.j1])
         | succ kj9 =>
          have H := HA.out
          clear HA
          simp only [tabardref13_rune1.j1] at H
          by_cases c12 : x25_9 = true
          ·subst c12
           have H1 : (tabardref13_rune1.j2 kj9 a0 3 2048 (wrap64 ((wrap64 (bt a0 0)) - 224))) = some r := by rw [if_pos rfl] at H; exact H
           clear H
           have H := H1
           clear H1
           have H' := Aside0.mk H
           clear H
           go_wp2
           go_meet
           case rel => exact ⟨_, (3), (2048), (wrap64 ((wrap64 (bt a0 0)) - 224)), Z5, Z5, Z5, H', ⟨by have := HJ6.out; have := HJ9.out; first | omega | exact Nat.le_refl _⟩, by repeat (first | exact Drawn0.refl _ | apply Drawn0.step)⟩
          ·replace c12 := Bool.eq_false_iff.mpr c12
           subst c12
           have H1 : (if (wrap64 (bt a0 0)) ≥ 240 then (if (wrap64 (bt a0 0)) < 245 then (tabardref13_rune1.j2 kj9 a0 4 65536 (wrap64 ((wrap64 (bt a0 0)) - 240))) else (tabardref13_rune1.j2 kj9 a0 0 0 0)) else (tabardref13_rune1.j2 kj9 a0 0 0 0)) = some r := by rw [if_neg (show ¬ (false = true) by decide)] at H; exact H
           clear H
           have H := H1
           clear H1
           by_cases c13 : (wrap64 (bt a0 0)) ≥ 240
           ·rw [if_pos c13] at H
            have c13b0 : decide (240 ≤ (wrap64 (bt a0 0))) = true := decide_eq_true c13
            clear c13
            by_cases c14 : (wrap64 (bt a0 0)) < 245
            ·rw [if_pos c14] at H
             have c14b0 : decide ((wrap64 (bt a0 0)) < 245) = true := decide_eq_true c14
             clear c14
             have H' := Aside0.mk H
             clear H
             go_wp2
             go_meet
             case rel => exact ⟨_, (4), (65536), (wrap64 ((wrap64 (bt a0 0)) - 240)), Z5, Z5, Z5, H', ⟨by have := HJ6.out; have := HJ9.out; first | omega | exact Nat.le_refl _⟩, by repeat (first | exact Drawn0.refl _ | apply Drawn0.step)⟩
            ·rw [if_neg c14] at H
             have c14b0 : decide ((wrap64 (bt a0 0)) < 245) = false := decide_eq_false c14
             clear c14
             have H' := Aside0.mk H
             clear H
             go_wp2
             go_meet
             case rel => exact Z66
           ·rw [if_neg c13] at H
            have c13b0 : decide (240 ≤ (wrap64 (bt a0 0))) = false := decide_eq_false c13
            clear c13
            have H' := Aside0.mk H
            clear H
            go_wp2
            go_meet
            case rel => exact Z66
   case rest =>
    clear HC5
    try clear c1
    try clear c2
    try clear c2b0
    try clear c2b1
    try clear p2
    try clear c3
    try clear c3b0
    try clear c3b1
    try clear p4
    try clear q4
    try clear hx4
    try clear qi4
    try clear c6
    try clear c6b0
    try clear p6
    try clear c8
    try clear c8b0
    try clear c9
    try clear c11
    try clear c11b0
    try clear c12
    try clear c13
    try clear c13b0
    try clear c14
    try clear c14b0
    try clear p2
    try clear p4
    try clear p6
    try clear q4
    obtain ⟨kq, x4_4, x5_4, x6_4, rfl, rfl, rfl, HA, HJ4, ⟨mc4, rfl⟩⟩ := hcut
    cases kq with
    | zero => exact absurd HA.out (by simp [tabardref13_rune1.j2])
    | succ kj4 =>
     have H := HA.out
     clear HA
     simp only [tabardref13_rune1.j2] at H
     have HC15 := Aside0.mk H
     clear H
     go_upto_region 21 with (fail)
     go_cut [50] (fun v50 wc => ∃ (kq : Nat) (x50_14 : Bool), v50 = .bool x50_14 ∧ Aside0 (tabardref13_rune1.j3 kq a0 x4_4 x5_4 x6_4 x50_14 = some r) ∧ Aside0 (kq ≤ kj4) ∧ Drawn0 w wc)
     case first =>
      have H := HC15.out
      clear HC15
      by_cases c16 : x4_4 = 0
      ·rw [if_pos c16] at H
       have c16b0 : (x4_4 == 0) = true := beq_iff_eq.mpr c16
       have c16b1 : (x4_4 != 0) = false := bne_eq_false_iff_eq.mpr c16
       clear c16
       (first | rw [c16b0] | (simp only [i64_w, i32_w]; rw [c16b0]) | skip)
       have H' := Aside0.mk H
       clear H
       go_wp2
       go_meet
       case rel => exact ⟨_, (true), Z5, H', ⟨by have := HJ4.out; first | omega | exact Nat.le_refl _⟩, by repeat (first | exact Drawn0.refl _ | apply Drawn0.step)⟩
      ·rw [if_neg c16] at H
       have c16b0 : (x4_4 == 0) = false := beq_eq_false_iff_ne.mpr c16
       have c16b1 : (x4_4 != 0) = true := bne_iff_ne.mpr c16
       (first | rw [c16b0] | (simp only [i64_w, i32_w]; rw [c16b0]) | skip)
       have H' := Aside0.mk H
       clear H
       go_wp2
       go_meet
       case rel => exact ⟨_, (decide ((a0.size : Int) < x4_4)), Z5, H', ⟨by have := HJ4.out; first | omega | exact Nat.le_refl _⟩, by repeat (first | exact Drawn0.refl _ | apply Drawn0.step)⟩
     case rest =>
      clear HC15
      try clear c1
      try clear c2
      try clear c2b0
      try clear c2b1
      try clear p2
      try clear c3
      try clear c3b0
      try clear c3b1
      try clear c4
      try clear p4
      try clear q4
      try clear hx4
      try clear qi4
      try clear c6
      try clear c6b0
      try clear p6
      try clear c8
      try clear c8b0
      try clear c9
      try clear c11
      try clear c11b0
      try clear c12
      try clear c13
      try clear c13b0
      try clear c14
      try clear c14b0
      try clear c16
      try clear c16b0
      try clear c16b1
      try clear p2
      try clear p4
      try clear p6
      try clear q4
      obtain ⟨kq, x50_14, rfl, HA, HJ14, ⟨mc14, rfl⟩⟩ := hcut
      cases kq with
      | zero => exact absurd HA.out (by simp [tabardref13_rune1.j3])
      | succ kj14 =>
       have H := HA.out
       clear HA
       simp only [tabardref13_rune1.j3] at H
       by_cases c17 : x50_14 = true
       ·subst c17
        have H1 : (some 0) = some r := by rw [if_pos rfl] at H; exact H
        clear H
        have H := H1
        clear H1
        obtain rfl := Option.some.inj H
        go_wp2
        go_ret
        exact Z12
       ·replace c17 := Bool.eq_false_iff.mpr c17
        subst c17
        have H1 : (tabardref13_rune1.l0 kj14 a0 x4_4 x5_4 x6_4 1) = some r := by rw [if_neg (show ¬ (false = true) by decide)] at H; exact H
        clear H
        have H := H1
        clear H1
        have H' := Aside0.mk H
        clear H
        go_wp2
        go_loopg [6, 7] kj14 (fun kq v6 v7 w' => ∃ (x6_3 : Int) (x7_3 : Int), v6 = .int .i64 x6_3 ∧ v7 = .int .i64 x7_3 ∧ Aside0 (tabardref13_rune1.l0 kq a0 x4_4 x5_4 x6_3 x7_3 = some r) ∧ Aside0 (kq ≤ kj14) ∧ Drawn0 w w')
        case atStart => exact ⟨(x6_4), (1), Z5, Z5, H', ⟨Nat.le_refl _⟩, by repeat (first | exact Drawn0.refl _ | apply Drawn0.step)⟩
        case round =>
         clear H'
         try clear c1
         try clear c2
         try clear c2b0
         try clear c2b1
         try clear p2
         try clear c3
         try clear c3b0
         try clear c3b1
         try clear c4
         try clear p4
         try clear q4
         try clear hx4
         try clear qi4
         try clear c6
         try clear c6b0
         try clear p6
         try clear c8
         try clear c8b0
         try clear c9
         try clear c11
         try clear c11b0
         try clear c12
         try clear c13
         try clear c13b0
         try clear c14
         try clear c14b0
         try clear c16
         try clear c16b0
         try clear c16b1
         try clear c17
         try clear p2
         try clear p4
         try clear p6
         try clear q4
         obtain ⟨x6_3, x7_3, rfl, rfl, HA, HK3, ⟨m3, rfl⟩⟩ := hrel
         cases gk with
         | zero => exact absurd HA.out (by simp [tabardref13_rune1.l0])
         | succ k3 =>
          have H := HA.out
          clear HA
          simp only [tabardref13_rune1.l0] at H
          by_cases c18 : x7_3 < x4_4
          ·rw [if_pos c18] at H
           have c18b0 : decide (x7_3 < x4_4) = true := decide_eq_true c18
           clear c18
           by_cases c19 : 0 ≤ x7_3
           ·rw [if_pos c19] at H
            have c19b0 : decide (0 ≤ x7_3) = true := decide_eq_true c19
            clear c19
            by_cases c20 : x7_3 < (a0.size : Int)
            ·rw [if_pos c20] at H
             have c20b0 : decide (x7_3 < (a0.size : Int)) = true := decide_eq_true c20
             clear c20
             by_cases c22 : (bt a0 x7_3) < 128
             ·rw [if_pos c22] at H
              have c22b0 : decide ((bt a0 x7_3) < 128) = true := decide_eq_true c22
              clear c22
              obtain rfl := Option.some.inj H
              have p21 : 0 ≤ (x7_3 : Int) := of_decide_eq_true Z6
              have q21 : x7_3 < (a0.size : Int) := of_decide_eq_true Z6
              have hx21 := bt_at a0 x7_3
              replace p21 := eq_true p21
              replace q21 := eq_true q21
              go_wp2
              go_ret
              exact Z12
             ·rw [if_neg c22] at H
              have c22b0 : decide ((bt a0 x7_3) < 128) = false := decide_eq_false c22
              clear c22
              by_cases c24 : (bt a0 x7_3) ≥ 192
              ·rw [if_pos c24] at H
               have c24b0 : decide (192 ≤ (bt a0 x7_3)) = true := decide_eq_true c24
               clear c24
               obtain rfl := Option.some.inj H
               have p21 : 0 ≤ (x7_3 : Int) := of_decide_eq_true Z6
               have q21 : x7_3 < (a0.size : Int) := of_decide_eq_true Z6
               have hx21 := bt_at a0 x7_3
               replace p21 := eq_true p21
               replace q21 := eq_true q21
               have p23 : 0 ≤ (x7_3 : Int) := of_decide_eq_true Z6
               have q23 : x7_3 < (a0.size : Int) := of_decide_eq_true Z6
               have hx23 := bt_at a0 x7_3
               replace p23 := eq_true p23
               replace q23 := eq_true q23
               go_wp2
               go_ret
               exact Z12
              ·rw [if_neg c24] at H
               have c24b0 : decide (192 ≤ (bt a0 x7_3)) = false := decide_eq_false c24
               clear c24
               have H' := Aside0.mk H
               clear H
               have p21 : 0 ≤ (x7_3 : Int) := of_decide_eq_true Z6
               have q21 : x7_3 < (a0.size : Int) := of_decide_eq_true Z6
               have hx21 := bt_at a0 x7_3
               replace p21 := eq_true p21
               replace q21 := eq_true q21
               have p23 : 0 ≤ (x7_3 : Int) := of_decide_eq_true Z6
               have q23 : x7_3 < (a0.size : Int) := of_decide_eq_true Z6
               have hx23 := bt_at a0 x7_3
               replace p23 := eq_true p23
               replace q23 := eq_true q23
               have p25 : 0 ≤ (x7_3 : Int) := of_decide_eq_true Z6
               have q25 : x7_3 < (a0.size : Int) := of_decide_eq_true Z6
               have hx25 := bt_at a0 x7_3
               replace p25 := eq_true p25
               replace q25 := eq_true q25
               go_wp2
               go_roundg k3
               case measure => have := HJ4.out; have := HJ14.out; have := HK3.out; omega
               case rel => exact ⟨(wrap64 ((wrap64 ((wrap64 (64 * x6_3)) + (wrap64 (bt a0 x7_3)))) - 128)), (wrap64 (x7_3 + 1)), Z5, Z5, H', ⟨by have := HJ4.out; have := HJ14.out; have := HK3.out; omega⟩, by repeat (first | exact Drawn0.refl _ | apply Drawn0.step)⟩
            ·rw [if_neg c20] at H
             exact Z33
           ·rw [if_neg c19] at H
            exact Z33
          ·rw [if_neg c18] at H
           have c18b0 : decide (x7_3 < x4_4) = false := decide_eq_false c18
           clear c18
           by_cases c26 : x6_3 < x5_4
           ·rw [if_pos c26] at H
            have c26b0 : decide (x6_3 < x5_4) = true := decide_eq_true c26
            clear c26
            obtain rfl := Option.some.inj H
            go_wp2
            go_ret
            exact Z12
           ·rw [if_neg c26] at H
            have c26b0 : decide (x6_3 < x5_4) = false := decide_eq_false c26
            clear c26
            by_cases c27 : x6_3 > 1114111
            ·rw [if_pos c27] at H
             have c27b0 : decide (1114111 < x6_3) = true := decide_eq_true c27
             clear c27
             obtain rfl := Option.some.inj H
             go_wp2
             go_ret
             exact Z12
            ·rw [if_neg c27] at H
             have c27b0 : decide (1114111 < x6_3) = false := decide_eq_false c27
             clear c27
             by_cases c28 : x6_3 ≥ 55296
             ·rw [if_pos c28] at H
              have c28b0 : decide (55296 ≤ x6_3) = true := decide_eq_true c28
              clear c28
              by_cases c29 : x6_3 < 57344
              ·rw [if_pos c29] at H
               have c29b0 : decide (x6_3 < 57344) = true := decide_eq_true c29
               clear c29
               obtain rfl := Option.some.inj H
               go_wp2
               go_ret
               exact Z12
              ·rw [if_neg c29] at H
               have c29b0 : decide (x6_3 < 57344) = false := decide_eq_false c29
               clear c29
               obtain rfl := Option.some.inj H
               go_wp2
               go_ret
               exact Z12
             ·rw [if_neg c28] at H
              have c28b0 : decide (55296 ≤ x6_3) = false := decide_eq_false c28
              clear c28
              obtain rfl := Option.some.inj H
              go_wp2
              go_ret
              exact Z12
  ·rw [if_neg c3] at H
   exact Z33
def tabardref13_item.f (k : Nat) (a0_0 : Int) (a0_1 : ByteArray) : Option (Bool) := if a0_0 = 1 then ((tabardref13_rune1.f k a0_1).bind fun t111 => (if t111 > 0 then (some (t111 == (a0_1.size : Int))) else (some false))) else (if a0_0 = 2 then (if a0_1.toList = ([48] : List UInt8) then (some true) else (if a0_1.toList = ([35] : List UInt8) then (some true) else (some (a0_1.toList == ([63] : List UInt8))))) else (if a0_0 = 5 then (if a0_1.toList = ([43] : List UInt8) then (some true) else (some (a0_1.toList == ([45] : List UInt8)))) else (if a0_0 ≥ 1 then (if a0_0 ≤ 9 then (some (a0_1.toList == ([] : List UInt8))) else (some false)) else (some false))))
theorem tabardref13_item.mono : ∀ a0 a1 k, LeO (tabardref13_item.f k a0 a1) (tabardref13_item.f (k + 1) a0 a1) := by
 intro a0 a1 k
 unfold tabardref13_item.f
 repeat' first
   | (with_reducible exact tabardref13_rune1.mono _ _)
   | (with_reducible exact LeO.refl _)
   | (with_reducible exact LeO.none _)
   | (with_reducible refine LeO.ite ?_ ?_)
   | (with_reducible refine LeO.bind ?_ (fun _ => ?_))
   | exact tabardref13_rune1.mono _ _
   | exact LeO.none _
   | refine LeO.ite ?_ ?_
   | refine LeO.bind ?_ (fun _ => ?_)
set_option maxHeartbeats 8000000 in
set_option maxRecDepth 100000 in
theorem tabardref13_item.calls (k : Nat) (a0_0 : Int) (a0_1 : ByteArray) (r : Bool) (w : World) (h : tabardref13_item.f k a0_0 a0_1 = some r) :
  Calls Tryd.prog 56 #[.agg #[.int .i64 a0_0, .string a0_1]] w fun e w' => e = .returned (.bool r) ∧ Below w.heap.size w w' := by
 have hu98 := Tryd.underlying98
 have HB := Aside0.mk (Below.refl w.heap.size w)
 have H : (if a0_0 = 1 then ((tabardref13_rune1.f k a0_1).bind fun t111 => (if t111 > 0 then (some (t111 == (a0_1.size : Int))) else (some false))) else (if a0_0 = 2 then (if a0_1.toList = ([48] : List UInt8) then (some true) else (if a0_1.toList = ([35] : List UInt8) then (some true) else (some (a0_1.toList == ([63] : List UInt8))))) else (if a0_0 = 5 then (if a0_1.toList = ([43] : List UInt8) then (some true) else (some (a0_1.toList == ([45] : List UInt8)))) else (if a0_0 ≥ 1 then (if a0_0 ≤ 9 then (some (a0_1.toList == ([] : List UInt8))) else (some false)) else (some false))))) = some r := h
 clear h
 by_cases c2 : a0_0 = 1
 ·rw [if_pos c2] at H
  have c2b0 : (a0_0 == 1) = true := beq_iff_eq.mpr c2
  have c2b1 : (a0_0 != 1) = false := bne_eq_false_iff_eq.mpr c2
  clear c2
  replace H := Option.bind_eq_some_iff.mp H
  obtain ⟨t111, A30, H⟩ := H
  replace H : (if t111 > 0 then (some (t111 == (a0_1.size : Int))) else (some false)) = some r := H
  have A3 := Aside0.mk A30
  clear A30
  by_cases c4 : t111 > 0
  ·rw [if_pos c4] at H
   have c4b0 : decide (0 < t111) = true := decide_eq_true c4
   clear c4
   obtain rfl := Option.some.inj H
   go_enter Tryd.func56, Tryd.ntmps56
   go_wp2_with (first | ((with_reducible refine gate_dst (N := 1) rfl ?_); (try (refine gate_guard (by rfl) ?_; dsimp only)); refine box_event ?hg (N := 1) ?hd (cs := #[.int .i64 a0_0, .string a0_1]) (t := 98) ?hr ?_; (case hd => rfl); (case hg => rfl); (case hr => exact Z18); intro gb110 hg w5 hbox hb; have n0_ := Aside0.mk (below_step Z2 hb); have n1_ := Aside0.mk (hbox); have n2_ := Aside0.mk ((by rw [hg]; exact (below_size Z2) : w.heap.size ≤ gb110)); have n3_ := Aside0.mk ((by rw [hg]; exact (below_size Z2) : w.heap.size ≤ gb110)); clear HB; have HB := n0_; have BK110 := n1_; have GW110 := n2_; have GE110 := n3_; clear n0_ n1_ n2_ n3_; clear hb hbox hg; have hcz6_0 : w5.cell? ⟨gb110, 0, none⟩ = some (.int .i64 a0_0) := (blk_cell BK110.out 0).trans rfl; have hcz6_1 : w5.cell? ⟨gb110, 1, none⟩ = some (.string a0_1) := (blk_cell BK110.out 1).trans rfl; have hfz6_0 := blk_frozen BK110.out 0; have hfz6_1 := blk_frozen BK110.out 1) | ((with_reducible refine gate_callee (f := 83) rfl ?_); refine goesL_ (some 10) rfl rfl Tryd.func83 (by kernel_rfl) rfl #[.string a0_1] rfl Z3 ?_; (with_reducible refine (tabardref13_rune1.calls k a0_1 t111 _ A3.out).mono ?_); rintro e w' ⟨rfl, ⟨nd, rfl⟩⟩; refine ⟨_, rfl, ?_⟩))
   go_ret
   exact Z16
  ·rw [if_neg c4] at H
   have c4b0 : decide (0 < t111) = false := decide_eq_false c4
   clear c4
   obtain rfl := Option.some.inj H
   go_enter Tryd.func56, Tryd.ntmps56
   go_wp2_with (first | ((with_reducible refine gate_dst (N := 1) rfl ?_); (try (refine gate_guard (by rfl) ?_; dsimp only)); refine box_event ?hg (N := 1) ?hd (cs := #[.int .i64 a0_0, .string a0_1]) (t := 98) ?hr ?_; (case hd => rfl); (case hg => rfl); (case hr => exact Z18); intro gb110 hg w7 hbox hb; have n0_ := Aside0.mk (below_step Z2 hb); have n1_ := Aside0.mk (hbox); have n2_ := Aside0.mk ((by rw [hg]; exact (below_size Z2) : w.heap.size ≤ gb110)); have n3_ := Aside0.mk ((by rw [hg]; exact (below_size Z2) : w.heap.size ≤ gb110)); clear HB; have HB := n0_; have BK110 := n1_; have GW110 := n2_; have GE110 := n3_; clear n0_ n1_ n2_ n3_; clear hb hbox hg; have hcz8_0 : w7.cell? ⟨gb110, 0, none⟩ = some (.int .i64 a0_0) := (blk_cell BK110.out 0).trans rfl; have hcz8_1 : w7.cell? ⟨gb110, 1, none⟩ = some (.string a0_1) := (blk_cell BK110.out 1).trans rfl; have hfz8_0 := blk_frozen BK110.out 0; have hfz8_1 := blk_frozen BK110.out 1) | ((with_reducible refine gate_callee (f := 83) rfl ?_); refine goesL_ (some 10) rfl rfl Tryd.func83 (by kernel_rfl) rfl #[.string a0_1] rfl Z3 ?_; (with_reducible refine (tabardref13_rune1.calls k a0_1 t111 _ A3.out).mono ?_); rintro e w' ⟨rfl, ⟨nd, rfl⟩⟩; refine ⟨_, rfl, ?_⟩))
   go_ret
   exact Z16
 ·rw [if_neg c2] at H
  have c2b0 : (a0_0 == 1) = false := beq_eq_false_iff_ne.mpr c2
  have c2b1 : (a0_0 != 1) = true := bne_iff_ne.mpr c2
  by_cases c9 : a0_0 = 2
  ·rw [if_pos c9] at H
   have c9b0 : (a0_0 == 2) = true := beq_iff_eq.mpr c9
   have c9b1 : (a0_0 != 2) = false := bne_eq_false_iff_eq.mpr c9
   clear c9
   by_cases c10 : a0_1.toList = ([48] : List UInt8)
   ·rw [if_pos c10] at H
    have c10b0 : (a0_1.toList == ([48] : List UInt8)) = true := beq_iff_eq.mpr c10
    have c10b1 : (a0_1.toList != ([48] : List UInt8)) = false := bne_eq_false_iff_eq.mpr c10
    clear c10
    obtain rfl := Option.some.inj H
    go_enter Tryd.func56, Tryd.ntmps56
    go_wp2_with (first | ((with_reducible refine gate_dst (N := 1) rfl ?_); (try (refine gate_guard (by rfl) ?_; dsimp only)); refine box_event ?hg (N := 1) ?hd (cs := #[.int .i64 a0_0, .string a0_1]) (t := 98) ?hr ?_; (case hd => rfl); (case hg => rfl); (case hr => exact Z18); intro gb110 hg w11 hbox hb; have n0_ := Aside0.mk (below_step Z2 hb); have n1_ := Aside0.mk (hbox); have n2_ := Aside0.mk ((by rw [hg]; exact (below_size Z2) : w.heap.size ≤ gb110)); have n3_ := Aside0.mk ((by rw [hg]; exact (below_size Z2) : w.heap.size ≤ gb110)); clear HB; have HB := n0_; have BK110 := n1_; have GW110 := n2_; have GE110 := n3_; clear n0_ n1_ n2_ n3_; clear hb hbox hg; have hcz12_0 : w11.cell? ⟨gb110, 0, none⟩ = some (.int .i64 a0_0) := (blk_cell BK110.out 0).trans rfl; have hcz12_1 : w11.cell? ⟨gb110, 1, none⟩ = some (.string a0_1) := (blk_cell BK110.out 1).trans rfl; have hfz12_0 := blk_frozen BK110.out 0; have hfz12_1 := blk_frozen BK110.out 1))
    go_ret
    exact Z16
   ·rw [if_neg c10] at H
    have c10b0 : (a0_1.toList == ([48] : List UInt8)) = false := beq_eq_false_iff_ne.mpr c10
    have c10b1 : (a0_1.toList != ([48] : List UInt8)) = true := bne_iff_ne.mpr c10
    by_cases c13 : a0_1.toList = ([35] : List UInt8)
    ·rw [if_pos c13] at H
     have c13b0 : (a0_1.toList == ([35] : List UInt8)) = true := beq_iff_eq.mpr c13
     have c13b1 : (a0_1.toList != ([35] : List UInt8)) = false := bne_eq_false_iff_eq.mpr c13
     clear c13
     obtain rfl := Option.some.inj H
     go_enter Tryd.func56, Tryd.ntmps56
     go_wp2_with (first | ((with_reducible refine gate_dst (N := 1) rfl ?_); (try (refine gate_guard (by rfl) ?_; dsimp only)); refine box_event ?hg (N := 1) ?hd (cs := #[.int .i64 a0_0, .string a0_1]) (t := 98) ?hr ?_; (case hd => rfl); (case hg => rfl); (case hr => exact Z18); intro gb110 hg w14 hbox hb; have n0_ := Aside0.mk (below_step Z2 hb); have n1_ := Aside0.mk (hbox); have n2_ := Aside0.mk ((by rw [hg]; exact (below_size Z2) : w.heap.size ≤ gb110)); have n3_ := Aside0.mk ((by rw [hg]; exact (below_size Z2) : w.heap.size ≤ gb110)); clear HB; have HB := n0_; have BK110 := n1_; have GW110 := n2_; have GE110 := n3_; clear n0_ n1_ n2_ n3_; clear hb hbox hg; have hcz15_0 : w14.cell? ⟨gb110, 0, none⟩ = some (.int .i64 a0_0) := (blk_cell BK110.out 0).trans rfl; have hcz15_1 : w14.cell? ⟨gb110, 1, none⟩ = some (.string a0_1) := (blk_cell BK110.out 1).trans rfl; have hfz15_0 := blk_frozen BK110.out 0; have hfz15_1 := blk_frozen BK110.out 1))
     go_ret
     exact Z16
    ·rw [if_neg c13] at H
     have c13b0 : (a0_1.toList == ([35] : List UInt8)) = false := beq_eq_false_iff_ne.mpr c13
     have c13b1 : (a0_1.toList != ([35] : List UInt8)) = true := bne_iff_ne.mpr c13
     obtain rfl := Option.some.inj H
     go_enter Tryd.func56, Tryd.ntmps56
     go_wp2_with (first | ((with_reducible refine gate_dst (N := 1) rfl ?_); (try (refine gate_guard (by rfl) ?_; dsimp only)); refine box_event ?hg (N := 1) ?hd (cs := #[.int .i64 a0_0, .string a0_1]) (t := 98) ?hr ?_; (case hd => rfl); (case hg => rfl); (case hr => exact Z18); intro gb110 hg w16 hbox hb; have n0_ := Aside0.mk (below_step Z2 hb); have n1_ := Aside0.mk (hbox); have n2_ := Aside0.mk ((by rw [hg]; exact (below_size Z2) : w.heap.size ≤ gb110)); have n3_ := Aside0.mk ((by rw [hg]; exact (below_size Z2) : w.heap.size ≤ gb110)); clear HB; have HB := n0_; have BK110 := n1_; have GW110 := n2_; have GE110 := n3_; clear n0_ n1_ n2_ n3_; clear hb hbox hg; have hcz17_0 : w16.cell? ⟨gb110, 0, none⟩ = some (.int .i64 a0_0) := (blk_cell BK110.out 0).trans rfl; have hcz17_1 : w16.cell? ⟨gb110, 1, none⟩ = some (.string a0_1) := (blk_cell BK110.out 1).trans rfl; have hfz17_0 := blk_frozen BK110.out 0; have hfz17_1 := blk_frozen BK110.out 1))
     go_ret
     exact Z16
  ·rw [if_neg c9] at H
   have c9b0 : (a0_0 == 2) = false := beq_eq_false_iff_ne.mpr c9
   have c9b1 : (a0_0 != 2) = true := bne_iff_ne.mpr c9
   by_cases c18 : a0_0 = 5
   ·rw [if_pos c18] at H
    have c18b0 : (a0_0 == 5) = true := beq_iff_eq.mpr c18
    have c18b1 : (a0_0 != 5) = false := bne_eq_false_iff_eq.mpr c18
    clear c18
    by_cases c19 : a0_1.toList = ([43] : List UInt8)
    ·rw [if_pos c19] at H
     have c19b0 : (a0_1.toList == ([43] : List UInt8)) = true := beq_iff_eq.mpr c19
     have c19b1 : (a0_1.toList != ([43] : List UInt8)) = false := bne_eq_false_iff_eq.mpr c19
     clear c19
     obtain rfl := Option.some.inj H
     go_enter Tryd.func56, Tryd.ntmps56
     go_wp2_with (first | ((with_reducible refine gate_dst (N := 1) rfl ?_); (try (refine gate_guard (by rfl) ?_; dsimp only)); refine box_event ?hg (N := 1) ?hd (cs := #[.int .i64 a0_0, .string a0_1]) (t := 98) ?hr ?_; (case hd => rfl); (case hg => rfl); (case hr => exact Z18); intro gb110 hg w20 hbox hb; have n0_ := Aside0.mk (below_step Z2 hb); have n1_ := Aside0.mk (hbox); have n2_ := Aside0.mk ((by rw [hg]; exact (below_size Z2) : w.heap.size ≤ gb110)); have n3_ := Aside0.mk ((by rw [hg]; exact (below_size Z2) : w.heap.size ≤ gb110)); clear HB; have HB := n0_; have BK110 := n1_; have GW110 := n2_; have GE110 := n3_; clear n0_ n1_ n2_ n3_; clear hb hbox hg; have hcz21_0 : w20.cell? ⟨gb110, 0, none⟩ = some (.int .i64 a0_0) := (blk_cell BK110.out 0).trans rfl; have hcz21_1 : w20.cell? ⟨gb110, 1, none⟩ = some (.string a0_1) := (blk_cell BK110.out 1).trans rfl; have hfz21_0 := blk_frozen BK110.out 0; have hfz21_1 := blk_frozen BK110.out 1))
     go_ret
     exact Z16
    ·rw [if_neg c19] at H
     have c19b0 : (a0_1.toList == ([43] : List UInt8)) = false := beq_eq_false_iff_ne.mpr c19
     have c19b1 : (a0_1.toList != ([43] : List UInt8)) = true := bne_iff_ne.mpr c19
     obtain rfl := Option.some.inj H
     go_enter Tryd.func56, Tryd.ntmps56
     go_wp2_with (first | ((with_reducible refine gate_dst (N := 1) rfl ?_); (try (refine gate_guard (by rfl) ?_; dsimp only)); refine box_event ?hg (N := 1) ?hd (cs := #[.int .i64 a0_0, .string a0_1]) (t := 98) ?hr ?_; (case hd => rfl); (case hg => rfl); (case hr => exact Z18); intro gb110 hg w22 hbox hb; have n0_ := Aside0.mk (below_step Z2 hb); have n1_ := Aside0.mk (hbox); have n2_ := Aside0.mk ((by rw [hg]; exact (below_size Z2) : w.heap.size ≤ gb110)); have n3_ := Aside0.mk ((by rw [hg]; exact (below_size Z2) : w.heap.size ≤ gb110)); clear HB; have HB := n0_; have BK110 := n1_; have GW110 := n2_; have GE110 := n3_; clear n0_ n1_ n2_ n3_; clear hb hbox hg; have hcz23_0 : w22.cell? ⟨gb110, 0, none⟩ = some (.int .i64 a0_0) := (blk_cell BK110.out 0).trans rfl; have hcz23_1 : w22.cell? ⟨gb110, 1, none⟩ = some (.string a0_1) := (blk_cell BK110.out 1).trans rfl; have hfz23_0 := blk_frozen BK110.out 0; have hfz23_1 := blk_frozen BK110.out 1))
     go_ret
     exact Z16
   ·rw [if_neg c18] at H
    have c18b0 : (a0_0 == 5) = false := beq_eq_false_iff_ne.mpr c18
    have c18b1 : (a0_0 != 5) = true := bne_iff_ne.mpr c18
    by_cases c24 : a0_0 ≥ 1
    ·rw [if_pos c24] at H
     have c24b0 : decide (1 ≤ a0_0) = true := decide_eq_true c24
     clear c24
     by_cases c25 : a0_0 ≤ 9
     ·rw [if_pos c25] at H
      have c25b0 : decide (a0_0 ≤ 9) = true := decide_eq_true c25
      clear c25
      obtain rfl := Option.some.inj H
      go_enter Tryd.func56, Tryd.ntmps56
      go_wp2_with (first | ((with_reducible refine gate_dst (N := 1) rfl ?_); (try (refine gate_guard (by rfl) ?_; dsimp only)); refine box_event ?hg (N := 1) ?hd (cs := #[.int .i64 a0_0, .string a0_1]) (t := 98) ?hr ?_; (case hd => rfl); (case hg => rfl); (case hr => exact Z18); intro gb110 hg w26 hbox hb; have n0_ := Aside0.mk (below_step Z2 hb); have n1_ := Aside0.mk (hbox); have n2_ := Aside0.mk ((by rw [hg]; exact (below_size Z2) : w.heap.size ≤ gb110)); have n3_ := Aside0.mk ((by rw [hg]; exact (below_size Z2) : w.heap.size ≤ gb110)); clear HB; have HB := n0_; have BK110 := n1_; have GW110 := n2_; have GE110 := n3_; clear n0_ n1_ n2_ n3_; clear hb hbox hg; have hcz27_0 : w26.cell? ⟨gb110, 0, none⟩ = some (.int .i64 a0_0) := (blk_cell BK110.out 0).trans rfl; have hcz27_1 : w26.cell? ⟨gb110, 1, none⟩ = some (.string a0_1) := (blk_cell BK110.out 1).trans rfl; have hfz27_0 := blk_frozen BK110.out 0; have hfz27_1 := blk_frozen BK110.out 1))
      go_ret
      exact Z16
     ·rw [if_neg c25] at H
      have c25b0 : decide (a0_0 ≤ 9) = false := decide_eq_false c25
      clear c25
      obtain rfl := Option.some.inj H
      go_enter Tryd.func56, Tryd.ntmps56
      go_wp2_with (first | ((with_reducible refine gate_dst (N := 1) rfl ?_); (try (refine gate_guard (by rfl) ?_; dsimp only)); refine box_event ?hg (N := 1) ?hd (cs := #[.int .i64 a0_0, .string a0_1]) (t := 98) ?hr ?_; (case hd => rfl); (case hg => rfl); (case hr => exact Z18); intro gb110 hg w28 hbox hb; have n0_ := Aside0.mk (below_step Z2 hb); have n1_ := Aside0.mk (hbox); have n2_ := Aside0.mk ((by rw [hg]; exact (below_size Z2) : w.heap.size ≤ gb110)); have n3_ := Aside0.mk ((by rw [hg]; exact (below_size Z2) : w.heap.size ≤ gb110)); clear HB; have HB := n0_; have BK110 := n1_; have GW110 := n2_; have GE110 := n3_; clear n0_ n1_ n2_ n3_; clear hb hbox hg; have hcz29_0 : w28.cell? ⟨gb110, 0, none⟩ = some (.int .i64 a0_0) := (blk_cell BK110.out 0).trans rfl; have hcz29_1 : w28.cell? ⟨gb110, 1, none⟩ = some (.string a0_1) := (blk_cell BK110.out 1).trans rfl; have hfz29_0 := blk_frozen BK110.out 0; have hfz29_1 := blk_frozen BK110.out 1))
      go_ret
      exact Z16
    ·rw [if_neg c24] at H
     have c24b0 : decide (1 ≤ a0_0) = false := decide_eq_false c24
     clear c24
     obtain rfl := Option.some.inj H
     go_enter Tryd.func56, Tryd.ntmps56
     go_wp2_with (first | ((with_reducible refine gate_dst (N := 1) rfl ?_); (try (refine gate_guard (by rfl) ?_; dsimp only)); refine box_event ?hg (N := 1) ?hd (cs := #[.int .i64 a0_0, .string a0_1]) (t := 98) ?hr ?_; (case hd => rfl); (case hg => rfl); (case hr => exact Z18); intro gb110 hg w30 hbox hb; have n0_ := Aside0.mk (below_step Z2 hb); have n1_ := Aside0.mk (hbox); have n2_ := Aside0.mk ((by rw [hg]; exact (below_size Z2) : w.heap.size ≤ gb110)); have n3_ := Aside0.mk ((by rw [hg]; exact (below_size Z2) : w.heap.size ≤ gb110)); clear HB; have HB := n0_; have BK110 := n1_; have GW110 := n2_; have GE110 := n3_; clear n0_ n1_ n2_ n3_; clear hb hbox hg; have hcz31_0 : w30.cell? ⟨gb110, 0, none⟩ = some (.int .i64 a0_0) := (blk_cell BK110.out 0).trans rfl; have hcz31_1 : w30.cell? ⟨gb110, 1, none⟩ = some (.string a0_1) := (blk_cell BK110.out 1).trans rfl; have hfz31_0 := blk_frozen BK110.out 0; have hfz31_1 := blk_frozen BK110.out 1))
     go_ret
     exact Z16
end Go.Proofs.YtmbhjogohfcjgaaDoor.P
