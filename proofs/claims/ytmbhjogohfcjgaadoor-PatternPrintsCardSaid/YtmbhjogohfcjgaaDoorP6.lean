-- Laid by wip/tools/xprint.py, a program of this session's, over the kit's print. Lean checks it.
import Derived.Test.YtmbhjogohfcjgaaDoorP0
import Derived.Test.YtmbhjogohfcjgaaDoorP5
namespace Go.Proofs.YtmbhjogohfcjgaaDoor.P
open Go.RowKit Go.Proofs.YtmbhjogohfcjgaaDoorW.PrintWords Go.Proofs.YtmbhjogohfcjgaaDoorW.PrintLast Go.Proofs.YtmbhjogohfcjgaaDoorW.PrintMore
attribute [local go_sem] max2_int min2_int max_two min_two max_three min_three max_four min_four   -- for this text's walks alone
set_option linter.unusedVariables false
set_option linter.unusedSimpArgs false
mutual
def tabardref13_Right.j0 : Nat → List (S66) → Bool → Option (Bool)
 | 0, _, _ => none
 | k + 1, x0, x12 => if x12 = true then (some false) else (tabardref13_Right.l0 k x0 0 0)
def tabardref13_Right.l0 : Nat → List (S66) → Int → Int → Option (Bool)
 | 0, _, _, _ => none
 | k + 1, x0, x3, x4 => if x4 < (x0.length : Int) then (if 0 ≤ x4 then (if (((rd_T66 x0 x4).f0).length : Int) > 100 then (some false) else (tabardref13_Right.l0 k x0 (wrap64 (x3 + (((rd_T66 x0 x4).f0).length : Int))) (wrap64 (x4 + 1)))) else (none)) else (if x3 ≤ 100 then ((tabardref13_wrong.f k x0).bind fun t185 => (some (decide (t185 < 0)))) else (some false))
end
def tabardref13_Right.f (k : Nat) (l0 : List (S66)) : Option (Bool) := if (l0.length : Int) < 1 then (tabardref13_Right.j0 k l0 true) else (tabardref13_Right.j0 k l0 (decide ((l0.length : Int) > 4)))
theorem tabardref13_Right.mono_l : ∀ k, (∀ y0 y1, LeO (tabardref13_Right.j0 k y0 y1) (tabardref13_Right.j0 (k + 1) y0 y1)) ∧ (∀ y0 y1 y2, LeO (tabardref13_Right.l0 k y0 y1 y2) (tabardref13_Right.l0 (k + 1) y0 y1 y2))
 | 0 => ⟨fun _ _ r h => by simp [tabardref13_Right.j0] at h, fun _ _ _ r h => by simp [tabardref13_Right.l0] at h⟩
 | k + 1 => by
  obtain ⟨ih0, ih1⟩ := tabardref13_Right.mono_l k
  refine ⟨?_, ?_⟩
  ·intro y0 y1
   unfold tabardref13_Right.j0
   repeat' first
   | (with_reducible exact ih0 _ _)
   | (with_reducible exact ih1 _ _ _)
   | (with_reducible exact tabardref13_wrong.mono _ _)
   | (with_reducible exact LeO.refl _)
   | (with_reducible exact LeO.none _)
   | (with_reducible refine LeO.ite ?_ ?_)
   | (with_reducible refine LeO.bind ?_ (fun _ => ?_))
   | exact ih0 _ _
   | exact ih1 _ _ _
   | exact tabardref13_wrong.mono _ _
   | exact LeO.none _
   | refine LeO.ite ?_ ?_
   | refine LeO.bind ?_ (fun _ => ?_)
  ·intro y0 y1 y2
   unfold tabardref13_Right.l0
   repeat' first
   | (with_reducible exact ih0 _ _)
   | (with_reducible exact ih1 _ _ _)
   | (with_reducible exact tabardref13_wrong.mono _ _)
   | (with_reducible exact LeO.refl _)
   | (with_reducible exact LeO.none _)
   | (with_reducible refine LeO.ite ?_ ?_)
   | (with_reducible refine LeO.bind ?_ (fun _ => ?_))
   | exact ih0 _ _
   | exact ih1 _ _ _
   | exact tabardref13_wrong.mono _ _
   | exact LeO.none _
   | refine LeO.ite ?_ ?_
   | refine LeO.bind ?_ (fun _ => ?_)
theorem tabardref13_Right.mono : ∀ a0 k, LeO (tabardref13_Right.f k a0) (tabardref13_Right.f (k + 1) a0) := by
 intro a0 k
 obtain ⟨ih0, ih1⟩ := tabardref13_Right.mono_l k
 unfold tabardref13_Right.f
 repeat' first
   | (with_reducible exact ih0 _ _)
   | (with_reducible exact ih1 _ _ _)
   | (with_reducible exact tabardref13_wrong.mono _ _)
   | (with_reducible exact LeO.refl _)
   | (with_reducible exact LeO.none _)
   | (with_reducible refine LeO.ite ?_ ?_)
   | (with_reducible refine LeO.bind ?_ (fun _ => ?_))
   | exact ih0 _ _
   | exact ih1 _ _ _
   | exact tabardref13_wrong.mono _ _
   | exact LeO.none _
   | refine LeO.ite ?_ ?_
   | refine LeO.bind ?_ (fun _ => ?_)
set_option maxHeartbeats 8000000 in
set_option maxRecDepth 100000 in
theorem tabardref13_Right.calls (k : Nat) (A0 : Option Addr) (c0 : Nat) (l0 : List (S66)) (r : Bool) (w : World) (hr0 : Kd.C k66 w A0 l0.length l0) (hc0 : l0.length ≤ c0) (h : tabardref13_Right.f k l0 = some r) :
  Calls Tryd.prog 34 #[.slice A0 l0.length c0] w fun e w' => e = .returned (.bool r) ∧ Below w.heap.size w w' := by
 have HR0 := Aside0.mk hr0
 have HC0 := Aside0.mk hc0
 clear hr0 hc0
 have HB := Aside0.mk (Below.refl w.heap.size w)
 have H : (if (l0.length : Int) < 1 then (tabardref13_Right.j0 k l0 true) else (tabardref13_Right.j0 k l0 (decide ((l0.length : Int) > 4)))) = some r := h
 clear h
 have HC2 := Aside0.mk H
 clear H
 go_enter Tryd.func34, Tryd.ntmps34
 go_upto_region 1 with (fail)
 go_cut [12] (fun v12 wc => ∃ (kq : Nat) (x12_1 : Bool), v12 = .bool x12_1 ∧ Aside0 (tabardref13_Right.j0 kq l0 x12_1 = some r) ∧ Aside0 (kq ≤ k) ∧ Aside0 (Below w.heap.size w wc))
 case first =>
  have H := HC2.out
  clear HC2
  by_cases c3 : (l0.length : Int) < 1
  ·rw [if_pos c3] at H
   have c3b0 : decide ((l0.length : Int) < 1) = true := decide_eq_true c3
   have c3b1 : decide (l0.length < 1) = true := decide_eq_true (by omega)
   clear c3
   (first | rw [c3b0] | (simp only [i64_w, i32_w]; rw [c3b0]) | skip)
   have H' := Aside0.mk H
   clear H
   go_wp2
   go_meet
   case rel => exact ⟨_, (true), Z5, H', ⟨by first | omega | exact Nat.le_refl _⟩, ⟨by repeat (first | (with_reducible first | exact HB.out | apply below_alloc | apply pw_below_drewN | apply below_drew1) | exact HB.out)⟩⟩
  ·rw [if_neg c3] at H
   have c3b0 : decide ((l0.length : Int) < 1) = false := decide_eq_false c3
   have c3b1 : decide (l0.length < 1) = false := decide_eq_false (by omega)
   clear c3
   (first | rw [c3b0] | (simp only [i64_w, i32_w]; rw [c3b0]) | skip)
   have H' := Aside0.mk H
   clear H
   go_wp2
   go_meet
   case rel => exact ⟨_, (decide ((l0.length : Int) > 4)), Z5, H', ⟨by first | omega | exact Nat.le_refl _⟩, ⟨by repeat (first | (with_reducible first | exact HB.out | apply below_alloc | apply pw_below_drewN | apply below_drew1) | exact HB.out)⟩⟩
 case rest =>
  clear HC2
  try clear p2
  try clear c3
  try clear c3b0
  try clear c3b1
  obtain ⟨kq, x12_1, rfl, HA, HJ1, HB⟩ := hcut
  cases kq with
  | zero => exact absurd HA.out (by simp [tabardref13_Right.j0])
  | succ kj1 =>
   have H := HA.out
   clear HA
   simp only [tabardref13_Right.j0] at H
   by_cases c4 : x12_1 = true
   ·subst c4
    have H1 : (some false) = some r := by rw [if_pos rfl] at H; exact H
    clear H
    have H := H1
    clear H1
    obtain rfl := Option.some.inj H
    go_wp2
    go_ret
    exact Z15
   ·replace c4 := Bool.eq_false_iff.mpr c4
    subst c4
    have H1 : (tabardref13_Right.l0 kj1 l0 0 0) = some r := by rw [if_neg (show ¬ (false = true) by decide)] at H; exact H
    clear H
    have H := H1
    clear H1
    have H' := Aside0.mk H
    clear H
    go_wp2
    go_loopg [3, 4] kj1 (fun kq v3 v4 w' => ∃ (x3_2 : Int) (x4_2 : Int), v3 = .int .i64 x3_2 ∧ v4 = .int .i64 x4_2 ∧ Aside0 (tabardref13_Right.l0 kq l0 x3_2 x4_2 = some r) ∧ Aside0 (kq ≤ kj1) ∧ Aside0 (Below w.heap.size w w'))
    case atStart => exact Z62
    case round =>
     clear H'
     try clear p2
     try clear c3
     try clear c3b0
     try clear c3b1
     try clear c4
     try clear p2
     obtain ⟨x3_2, x4_2, rfl, rfl, HA, HK2, HB⟩ := hrel
     cases gk with
     | zero => exact absurd HA.out (by simp [tabardref13_Right.l0])
     | succ k2 =>
      have H := HA.out
      clear HA
      simp only [tabardref13_Right.l0] at H
      by_cases c5 : x4_2 < (l0.length : Int)
      ·rw [if_pos c5] at H
       have c5b0 : decide (x4_2 < (l0.length : Int)) = true := decide_eq_true c5
       clear c5
       by_cases c6 : 0 ≤ x4_2
       ·rw [if_pos c6] at H
        have c6b0 : decide (0 ≤ x4_2) = true := decide_eq_true c6
        clear c6
        by_cases c7 : (((rd_T66 l0 x4_2).f0).length : Int) > 100
        ·rw [if_pos c7] at H
         have c7b0 : decide (100 < (((rd_T66 l0 x4_2).f0).length : Int)) = true := decide_eq_true c7
         have c7b1 : decide (100 < ((rd_T66 l0 x4_2).f0).length) = true := decide_eq_true (by omega)
         clear c7
         obtain rfl := Option.some.inj H
         have p183 : 0 ≤ (x4_2 : Int) := of_decide_eq_true Z6
         have q183 : x4_2 < (l0.length : Int) := of_decide_eq_true Z6
         obtain ⟨ad183, A183_0, c183_0, e183, hx183_0, hx183_1, hx183_2, hl183_0, hi183_0⟩ := at_T66 HR0.out x4_2 p183 q183
         cases e183
         replace hx183_0 := (HB.out.cell (World.block_lt_of_cell? w _ hx183_0)).trans hx183_0
         replace hx183_1 := (HB.out.cell (World.block_lt_of_cell? w _ hx183_1)).trans hx183_1
         replace hx183_2 := (HB.out.cell (World.block_lt_of_cell? w _ hx183_2)).trans hx183_2
         have HR183_0 := Aside0.mk hi183_0
         have HC183_0 := Aside0.mk hl183_0
         clear hi183_0 hl183_0
         replace p183 := eq_true p183
         replace q183 := eq_true q183
         go_wp2
         go_ret
         exact Z15
        ·rw [if_neg c7] at H
         have c7b0 : decide (100 < (((rd_T66 l0 x4_2).f0).length : Int)) = false := decide_eq_false c7
         have c7b1 : decide (100 < ((rd_T66 l0 x4_2).f0).length) = false := decide_eq_false (by omega)
         clear c7
         have H' := Aside0.mk H
         clear H
         have p183 : 0 ≤ (x4_2 : Int) := of_decide_eq_true Z6
         have q183 : x4_2 < (l0.length : Int) := of_decide_eq_true Z6
         obtain ⟨ad183, A183_0, c183_0, e183, hx183_0, hx183_1, hx183_2, hl183_0, hi183_0⟩ := at_T66 HR0.out x4_2 p183 q183
         cases e183
         replace hx183_0 := (HB.out.cell (World.block_lt_of_cell? w _ hx183_0)).trans hx183_0
         replace hx183_1 := (HB.out.cell (World.block_lt_of_cell? w _ hx183_1)).trans hx183_1
         replace hx183_2 := (HB.out.cell (World.block_lt_of_cell? w _ hx183_2)).trans hx183_2
         have HR183_0 := Aside0.mk hi183_0
         have HC183_0 := Aside0.mk hl183_0
         clear hi183_0 hl183_0
         replace p183 := eq_true p183
         replace q183 := eq_true q183
         have p184 : 0 ≤ (x4_2 : Int) := of_decide_eq_true Z6
         have q184 : x4_2 < (l0.length : Int) := of_decide_eq_true Z6
         obtain ⟨ad184, A184_0, c184_0, e184, hx184_0, hx184_1, hx184_2, hl184_0, hi184_0⟩ := at_T66 HR0.out x4_2 p184 q184
         obtain rfl : ad183 = ad184 := (by injection e184)
         replace hx184_0 := (HB.out.cell (World.block_lt_of_cell? w _ hx184_0)).trans hx184_0
         replace hx184_1 := (HB.out.cell (World.block_lt_of_cell? w _ hx184_1)).trans hx184_1
         replace hx184_2 := (HB.out.cell (World.block_lt_of_cell? w _ hx184_2)).trans hx184_2
         have HR184_0 := Aside0.mk hi184_0
         have HC184_0 := Aside0.mk hl184_0
         clear hi184_0 hl184_0
         replace p184 := eq_true p184
         replace q184 := eq_true q184
         have ea_ := Option.some.inj (hx183_0.symm.trans hx184_0)
         injection ea_ with ea_ en_ ec_
         subst ea_
         subst ec_
         clear en_
         go_wp2
         go_roundg k2
         case measure => have := HJ1.out; have := HK2.out; omega
         case rel => exact ⟨(wrap64 (x3_2 + (((rd_T66 l0 x4_2).f0).length : Int))), (wrap64 (x4_2 + 1)), Z5, Z5, H', ⟨by have := HJ1.out; have := HK2.out; omega⟩, ⟨by repeat (first | (with_reducible first | exact HB.out | apply below_alloc | apply pw_below_drewN | apply below_drew1) | exact HB.out)⟩⟩
       ·rw [if_neg c6] at H
        exact Z33
      ·rw [if_neg c5] at H
       have c5b0 : decide (x4_2 < (l0.length : Int)) = false := decide_eq_false c5
       clear c5
       by_cases c8 : x3_2 ≤ 100
       ·rw [if_pos c8] at H
        have c8b0 : decide (x3_2 ≤ 100) = true := decide_eq_true c8
        clear c8
        replace H := Option.bind_eq_some_iff.mp H
        obtain ⟨t185, A90, H⟩ := H
        replace H : (some (decide (t185 < 0))) = some r := H
        have A9 := Aside0.mk A90
        clear A90
        obtain rfl := Option.some.inj H
        go_wp2_with (first | (go_at_call 61; (with_reducible refine (tabardref13_wrong.calls k2 _ _ l0 t185 _ ?side1 ?side2 A9.out).mono ?_); (case side1 => repeat (first | exact (Kd.C_below HR0.out HB.out) | (with_reducible refine Kd.C_alloc ?_ _) | (with_reducible refine Kd.C_drewN ?_ _) | (with_reducible refine Kd.C_drew ?_))); (case side2 => exact HC0.out); rintro e w10 ⟨rfl, hb⟩; have n0_ := Aside0.mk (below_step Z2 hb); clear HB; have HB := n0_; clear n0_; (try clear hb); (try clear hb2); (try clear hk); (try clear hi)))
        go_ret
        exact Z15
       ·rw [if_neg c8] at H
        have c8b0 : decide (x3_2 ≤ 100) = false := decide_eq_false c8
        clear c8
        obtain rfl := Option.some.inj H
        go_wp2
        go_ret
        exact Z15
end Go.Proofs.YtmbhjogohfcjgaaDoor.P
