/- The walks of (Section).pair and (Section).many. -/
import Derived.Test.YtmbhjogohfcjgaaDoorPs1
import Derived.Deep.QuietTactic
import Derived.BigQuiet
namespace Go.Proofs.YtmbhjogohfcjgaaDoor.P
open Go.RowKit Go.Proofs.YtmbhjogohfcjgaaDoorW.PrintWords Go.Proofs.YtmbhjogohfcjgaaDoorW.PrintLast Go.Proofs.YtmbhjogohfcjgaaDoorW.PrintMore
set_option linter.unusedVariables false
set_option linter.unusedSimpArgs false
def pairAt (l : List S88) (j : Nat) : Bool := (rd_T88 l (j : Int)).f0 == 2 && (rd_T88 l ((j : Int) + 1)).f0 == 2
def pairOf (l : List S88) : Int := match (List.range (wEnd l - 1)).find? (pairAt l) with
 | some i => i
 | none => -1
theorem pairOf_some {l : List S88} {j : Nat} (h : j + 1 < wEnd l) (h0 : ∀ i, i < j → pairAt l i = false) (h1 : pairAt l j = true) : pairOf l = j := by
 unfold pairOf
 rw [List.find?_range_eq_some.2 ⟨h1, by simp; omega, fun i hi => by rw [h0 i hi]; rfl⟩]
theorem pairOf_none {l : List S88} (h0 : ∀ i, i + 1 < wEnd l → pairAt l i = false) : pairOf l = -1 := by
 unfold pairOf
 rw [List.find?_range_eq_none.2 (fun i hi => by rw [h0 i (by omega)]; rfl)]
set_option maxHeartbeats 2000000 in
theorem pair_walk (A0 : Option Addr) (c0 : Nat) (l0 : List S88) (b : Bool) (sc : Int) (w : World) (hr : Kd.C k88 w A0 l0.length l0) (hc : l0.length ≤ c0) :
  Calls Tryd.prog 55 #[.agg #[.slice A0 l0.length c0, .bool b, .int .i64 sc]] w fun e w' => e = .returned (.int .i64 (pairOf l0)) ∧ Below w.heap.size w w' := by
 have hm : l0.length ≤ 9223372036854775807 := hr.2.1
 have hwl := wEnd_le l0
 have HP := Aside0.mk (@pairOf_some l0)
 have HN := Aside0.mk (@pairOf_none l0)
 have HX := Aside0.mk (head_walk A0 c0 l0 b sc (w.alloc (.cells #[.slice A0 l0.length c0, .bool b, .int .i64 sc] 62 (0, 0))) (Kd.C_below hr ((Below.refl _ _).alloc (Nat.le_refl _) _)) hc)
 have HR := Aside0.mk hr
 clear hr
 generalize pairOf l0 = r at *
 generalize wEnd l0 = n at *
 go_enter Tryd.func55, Tryd.ntmps55
 go_wp2_with (go_at_call 54; (with_reducible refine HX.out.mono ?_); rintro e w2 ⟨rfl, hb2⟩; have HB2 := Aside0.mk (((Below.refl w.heap.size w).alloc (Nat.le_refl _) _).trans (hb2.mono (by simp))); clear hb2)
 clear HX
 go_loopw [4] (fun i w' => ∃ k : Nat, (k + 1 ≤ n ∨ k = 0) ∧ i = .int .i64 ((k : Int) + 1) ∧ Aside0 (∀ j, j < k → pairAt l0 j = false) ∧ Aside0 (Below w.heap.size w w')) (fun i _ => n + 1 - (intOf i).toNat)
 case atStart => exact ⟨0, .inr rfl, rfl, ⟨fun j hj => absurd hj (by omega)⟩, HB2⟩
 case round =>
  clear HB2
  obtain ⟨k, hk, rfl, HA, HB⟩ := hrel
  by_cases hlt : k + 1 < n
  ·have hlt' : (k : Int) + 1 < (n : Int) := by omega
   have hq0 : (k : Int) < (n : Int) := by omega
   obtain ⟨ad, e, hx0, hx1⟩ := at_T88 HR.out (k : Int) (by omega) (by omega)
   cases e
   rw [Int.toNat_natCast] at hx0 hx1
   obtain ⟨ad', e, hy0, hy1⟩ := at_T88 HR.out ((k : Int) + 1) (by omega) (by omega)
   cases e
   rw [show ((k : Int) + 1).toNat = k + 1 by omega] at hy0 hy1
   replace hx0 := (HB.out.cell (World.block_lt_of_cell? w _ hx0)).trans hx0
   replace hx1 := (HB.out.cell (World.block_lt_of_cell? w _ hx1)).trans hx1
   replace hy0 := (HB.out.cell (World.block_lt_of_cell? w _ hy0)).trans hy0
   replace hy1 := (HB.out.cell (World.block_lt_of_cell? w _ hy1)).trans hy1
   have hgo : pairAt l0 k = false → Aside0 (∀ j, j < k + 1 → pairAt l0 j = false) := fun h => ⟨fun j hj => by
    rcases Nat.lt_or_ge j k with hj' | hj'
    ·exact HA.out j hj'
    ·obtain rfl : j = k := by omega
     exact h⟩
   have HGO := Lib.hid hgo
   clear hgo
   by_cases h1 : (rd_T88 l0 (k : Int)).f0 = 2
   ·have h1b : ((rd_T88 l0 (k : Int)).f0 == 2) = true := by simpa using h1
    have HH1 := Aside0.mk h1b
    clear h1
    by_cases h2 : (rd_T88 l0 ((k : Int) + 1)).f0 = 2
    ·have h2b : ((rd_T88 l0 ((k : Int) + 1)).f0 == 2) = true := by simpa using h2
     have HH2 := Aside0.mk h2b
     clear h2
     go_wp2
     go_ret
     exact ⟨ret_int (HP.out (by omega) HA.out (by unfold pairAt; rw [HH1.out, HH2.out]; rfl)).symm, HB.out⟩
    ·have h2b : ((rd_T88 l0 ((k : Int) + 1)).f0 == 2) = false := by simpa using h2
     have HH2 := Aside0.mk h2b
     clear h2
     go_wp2
     go_roundw
     case rel => exact ⟨k + 1, .inl (by omega), by go_num, HGO.out (by unfold pairAt; rw [HH1.out, HH2.out]; rfl), HB⟩
     case measure => simp [intOf]; omega
   ·have h1b : ((rd_T88 l0 (k : Int)).f0 == 2) = false := by simpa using h1
    have HH1 := Aside0.mk h1b
    clear h1
    go_wp2
    go_roundw
    case rel => exact ⟨k + 1, .inl (by omega), by go_num, HGO.out (by unfold pairAt; rw [HH1.out]; rfl), HB⟩
    case measure => simp [intOf]; omega
  ·go_wp2
   go_ret
   exact ⟨ret_int (HN.out (fun j hj => HA.out j (by omega))).symm, HB.out⟩
end Go.Proofs.YtmbhjogohfcjgaaDoor.P
