/- The walk of (Pattern).wrong. -/
import Derived.Test.YtmbhjogohfcjgaaDoorPs8
namespace Go.Proofs.YtmbhjogohfcjgaaDoor.P
open Go.RowKit Go.Proofs.YtmbhjogohfcjgaaDoorW.PrintWords Go.Proofs.YtmbhjogohfcjgaaDoorW.PrintLast Go.Proofs.YtmbhjogohfcjgaaDoorW.PrintMore
set_option linter.unusedVariables false
set_option linter.unusedSimpArgs false
def wrongIf (k : Int) (n : Nat) (j : Nat) : Bool := if k = 0 then true else if k = 1 then false else if k = 6 then decide (j < 3) && decide (1 < n) else j == 3
def wrongAt (l : List S62) (j : Nat) : Bool := wrongIf (shapeOf (rd_T62 l (j : Int)).f0 (rd_T62 l (j : Int)).f1 (rd_T62 l (j : Int)).f2) l.length j
def wrongOf (l : List S62) : Int := match (List.range l.length).find? (wrongAt l) with
 | some i => i
 | none => -1
theorem wrongOf_some {l : List S62} {j : Nat} (h : j < l.length) (h0 : ∀ i, i < j → wrongAt l i = false) (h1 : wrongAt l j = true) : wrongOf l = j := by
 unfold wrongOf
 rw [List.find?_range_eq_some.2 ⟨h1, by simp; omega, fun i hi => by rw [h0 i hi]; rfl⟩]
theorem wrongOf_none {l : List S62} (h0 : ∀ i, i < l.length → wrongAt l i = false) : wrongOf l = -1 := by
 unfold wrongOf
 rw [List.find?_range_eq_none.2 (fun i hi => by rw [h0 i hi]; rfl)]
set_option maxRecDepth 100000 in
set_option maxHeartbeats 4000000 in
theorem wrong1_walk (A0 : Option Addr) (c0 : Nat) (l0 : List S62) (bp : Nat) (j : Nat) (w : World) (hGL : GL w) (hb : w.cell? ⟨bp, 0, none⟩ = some (.slice A0 l0.length c0)) (hr : Kd.C k62 w A0 l0.length l0) (hl : ∀ s ∈ l0, s.f0.length ≤ 1000000) (hj : j < l0.length) :
  Calls Tryd.prog 89 #[.int .i64 (j : Int), .pointer (some ⟨bp, 0, none⟩)] w fun e w' => e = .returned (.bool (wrongAt l0 j)) ∧ Below w.heap.size w w' := by
 have hm : l0.length ≤ 9223372036854775807 := hr.2.1
 have hj' : (j : Int) < (l0.length : Int) := by omega
 have hsl : (rd_T62 l0 (j : Int)).f0.length ≤ 1000000 := by
  rw [rd_T62, Int.toNat_natCast, List.getD_eq_getElem?_getD, List.getElem?_eq_getElem hj]
  exact hl _ (List.getElem_mem hj)
 obtain ⟨ad, A1, c1, e, hx0, hx1, hx2, hx3, hx4⟩ := at_T62 hr (j : Int) (by omega) hj'
 cases e
 rw [Int.toNat_natCast] at hx0 hx1 hx2
 have HX := Aside0.mk (pattern_Shape.calls A1 c1 _ (rd_T62 l0 (j : Int)).f1 (rd_T62 l0 (j : Int)).f2 _ w hGL hx4 hx3 (by unfold pattern_Shape.f; rw [if_pos hsl]))
 clear hx4 hx3 hr hl
 unfold wrongAt
 generalize shapeOf (rd_T62 l0 (j : Int)).f0 (rd_T62 l0 (j : Int)).f1 (rd_T62 l0 (j : Int)).f2 = k at *
 unfold wrongIf
 by_cases k0 : k = 0
 ·rw [if_pos k0]
  have K0 := Aside0.mk k0
  have k0b : (k == 0) = true := beq_iff_eq.mpr k0
  clear k0
  go_enter Tryd.func89, Tryd.ntmps89
  go_wp2_with (go_at_call 31; (with_reducible refine HX.out.mono ?_); rintro e w2 ⟨rfl, hb2⟩; have HB2 := Aside0.mk hb2; clear hb2)
  go_ret
  exact ⟨rfl, HB2.out⟩
 ·rw [if_neg k0]
  have k0b : (k == 0) = false := beq_eq_false_iff_ne.mpr k0
  clear k0
  by_cases k1 : k = 1
  ·rw [if_pos k1]
   have k1b : (k == 1) = true := beq_iff_eq.mpr k1
   clear k1
   go_enter Tryd.func89, Tryd.ntmps89
   go_wp2_with (go_at_call 31; (with_reducible refine HX.out.mono ?_); rintro e w2 ⟨rfl, hb2⟩; have HB2 := Aside0.mk hb2; clear hb2)
   go_ret
   exact ⟨rfl, HB2.out⟩
  ·rw [if_neg k1]
   have k1b : (k == 1) = false := beq_eq_false_iff_ne.mpr k1
   clear k1
   by_cases k6 : k = 6
   ·rw [if_pos k6]
    have k6b : (k == 6) = true := beq_iff_eq.mpr k6
    clear k6
    by_cases j3 : j < 3
    ·have j3b : decide ((j : Int) < 3) = true := decide_eq_true (by omega)
     have j3c : decide (j < 3) = true := decide_eq_true j3
     rw [j3c, Bool.true_and]
     go_enter Tryd.func89, Tryd.ntmps89
     go_wp2_with (go_at_call 31; (with_reducible refine HX.out.mono ?_); rintro e w2 ⟨rfl, hb2⟩; have HB2 := Aside0.mk hb2; have hb' := (hb2.cell (World.block_lt_of_cell? w _ hb)).trans hb; clear hb2)
     go_ret
     exact ⟨by first | rfl | (simp; done) | (simp; omega), HB2.out⟩
    ·have j3b : decide ((j : Int) < 3) = false := decide_eq_false (by omega)
     have j3c : decide (j < 3) = false := decide_eq_false j3
     rw [j3c, Bool.false_and]
     go_enter Tryd.func89, Tryd.ntmps89
     go_wp2_with (go_at_call 31; (with_reducible refine HX.out.mono ?_); rintro e w2 ⟨rfl, hb2⟩; have HB2 := Aside0.mk hb2; clear hb2)
     go_ret
     exact ⟨rfl, HB2.out⟩
   ·rw [if_neg k6]
    have k6b : (k == 6) = false := beq_eq_false_iff_ne.mpr k6
    clear k6
    go_enter Tryd.func89, Tryd.ntmps89
    go_wp2_with (go_at_call 31; (with_reducible refine HX.out.mono ?_); rintro e w2 ⟨rfl, hb2⟩; have HB2 := Aside0.mk hb2; clear hb2)
    go_ret
    refine ⟨?_, HB2.out⟩
    have : ((j : Int) == 3) = (j == 3) := by
     rw [Bool.eq_iff_iff, beq_iff_eq, beq_iff_eq]; omega
    first | rfl | (rw [← this]; rfl) | simp [this]
theorem upTo_get (m j : Nat) (h : j < m) : (upTo m)[j]? = some (j : Int) := by
 unfold upTo
 rw [List.getElem?_map, List.getElem?_range h]; rfl
set_option maxHeartbeats 2000000 in
theorem ixi_walk (A0 : Option Addr) (c0 : Nat) (l0 : List S62) (bp : Nat) (Au : Option Addr) (cu : Nat) (w : World) (hGL : GL w) (hb : w.cell? ⟨bp, 0, none⟩ = some (.slice A0 l0.length c0)) (hr : Kd.C k62 w A0 l0.length l0) (hl : ∀ s ∈ l0, s.f0.length ≤ 1000000)
  (hu : ∀ j, j < l0.length → ∃ ad, Au = some ad ∧ w.cell? (ad.add j) = some (.int .i64 (j : Int))) :
  Calls Tryd.prog 86 #[.slice Au l0.length cu, .func (.func 89) #[] #[.pointer (some ⟨bp, 0, none⟩)]] w fun e w' => e = .returned (.int .i64 (wrongOf l0)) ∧ Below w.heap.size w w' := by
 have hm : l0.length ≤ 9223372036854775807 := hr.2.1
 have HP := Aside0.mk (@wrongOf_some l0)
 have HN := Aside0.mk (@wrongOf_none l0)
 have HC := Aside0.mk (fun (j : Nat) (hj : j < l0.length) W (hW : Below w.heap.size w W) => wrong1_walk A0 c0 l0 bp j W (hGL.below hW) ((hW.cell (World.block_lt_of_cell? w _ hb)).trans hb) (Kd.C_below hr hW) hl hj)
 have HU := Aside0.mk hu
 clear hr hb hGL hl hu
 generalize wrongOf l0 = r at *
 generalize l0.length = n at *
 go_enter Tryd.func86, Tryd.ntmps86
 go_wp2
 go_loopw [8] (fun i w' => ∃ k : Nat, k ≤ n ∧ i = .int .i64 k ∧ Aside0 (∀ j, j < k → wrongAt l0 j = false) ∧ Aside0 (Below w.heap.size w w')) (fun i _ => n - (Go.RowKit.intOf i).toNat)
 case atStart => exact ⟨0, Nat.zero_le _, rfl, ⟨fun j hj => absurd hj (by omega)⟩, ⟨Below.refl _ _⟩⟩
 case round =>
  obtain ⟨k, hk, rfl, HA, HB⟩ := hrel
  by_cases hlt : k < n
  ·have hlt' : (k : Int) < (n : Int) := by omega
   obtain ⟨ad, e, hx⟩ := HU.out k hlt
   cases e
   replace hx := (HB.out.cell (World.block_lt_of_cell? w _ hx)).trans hx
   have HC1 := Aside0.mk (HC.out k hlt _ HB.out)
   cases hh : wrongAt l0 k
   ·have HH := Aside0.mk hh
    rw [hh] at HC1
    clear hh
    go_wp2_with (go_at_call 89; (with_reducible refine HC1.out.mono ?_); rintro e w2 ⟨rfl, hb2⟩; have HB2 := Aside0.mk hb2; clear hb2)
    go_roundw
    case rel =>
     refine ⟨k + 1, by omega, by go_num, ⟨fun j hj => ?_⟩, ⟨HB.out.trans (HB2.out.mono HB.out.size)⟩⟩
     rcases Nat.lt_or_ge j k with hj' | hj'
     ·exact HA.out j hj'
     ·obtain rfl : j = k := by omega
      exact HH.out
    case measure => simp [Go.RowKit.intOf]; omega
   ·have HH := Aside0.mk hh
    rw [hh] at HC1
    clear hh
    go_wp2_with (go_at_call 89; (with_reducible refine HC1.out.mono ?_); rintro e w2 ⟨rfl, hb2⟩; have HB2 := Aside0.mk hb2; clear hb2)
    go_ret
    exact ⟨ret_int (HP.out hlt HA.out HH.out).symm, HB.out.trans (HB2.out.mono HB.out.size)⟩
  ·go_wp2
   go_ret
   obtain rfl : k = n := by omega
   exact ⟨ret_int (HN.out HA.out).symm, HB.out⟩
theorem collect_any (Bm m : Nat) (hm : m * 8 ≤ 140737488355328) (w : World) (hBm : Bm < w.heap.size) (hc : w.cell? ⟨Bm, 0, none⟩ = some (.int .i64 m)) :
  Calls Tryd.prog 87 #[.func (.func 114) #[] #[.pointer (some ⟨Bm, 0, none⟩)]] w fun e w' => ∃ A c, e = .returned (.slice A m c) ∧ (∀ j, j < m → ∃ ad, A = some ad ∧ w'.cell? (ad.add j) = some (.int .i64 (j : Int))) ∧ Below w.heap.size w w' := by
 have hmx : m ≤ maxLen := by unfold maxLen; omega
 refine (callsIn_wide.1 (AnyZI.collect_in coll_lays Go.Fence.wide 5 trivial trivial rfl (by omega) 114 _ trivial (enters_of Tryd.func114 (by kernel_rfl) rfl) _ m hmx hm w
  (indexes_gives Go.Fence.wide 3 trivial rfl (by omega) Bm m (by omega) w hBm hc))).mono fun e w' ⟨v, ss, he, hS, how, _, hb⟩ => ?_
 subst hS
 have how : w'.ownsRow w.heap.size 3 1 v (upTo m).length (nums .i64 (upTo m)) := how
 obtain ⟨A, c, rfl, hr⟩ := own_reads how
 rw [upTo_len] at he hr
 refine ⟨A, c, he, fun j hj => ?_, hb⟩
 obtain ⟨ad, hA, hcell⟩ := hr.at_ (j : Int) (by omega) (by omega)
 refine ⟨ad, hA, ?_⟩
 rw [Int.toNat_natCast, rd, Int.toNat_natCast, List.getD_eq_getElem?_getD, upTo_get m j hj] at hcell
 exact hcell
def pattern_Pattern_wrong.f (l0_0 : List (S62)) : Option (Int) := if l0_0.length ≤ 1000000 ∧ l0_0.all (fun s => decide (s.f0.length ≤ 1000000)) = true then some (wrongOf l0_0) else none
set_option maxHeartbeats 2000000 in
theorem wrong_walk (A0 : Option Addr) (c0 : Nat) (l0 : List S62) (w : World) (hGL : GL w) (hr : Kd.C k62 w A0 l0.length l0) (hn : l0.length ≤ 1000000) (hl : ∀ s ∈ l0, s.f0.length ≤ 1000000) :
  Calls Tryd.prog 60 #[.agg #[.slice A0 l0.length c0]] w fun e w' => e = .returned (.int .i64 (wrongOf l0)) ∧ Below w.heap.size w w' := by
 have hmf : ∀ (fn : Fn) (first cap : Array Value) (w : World), (Instr.makeFunc fn first cap).run Tryd.prog w = .ok (.func fn first cap) w := fun _ _ _ _ => rfl
 have h1 := (Below.refl w.heap.size w).alloc (Nat.le_refl _) (.cells #[.slice A0 l0.length c0] 55 (0, 0))
 have h2 := h1.alloc h1.size (.cells #[.int .i64 l0.length] 3 (0, 0))
 have hbox : ((w.alloc (.cells #[.slice A0 l0.length c0] 55 (0, 0))).alloc (.cells #[.int .i64 l0.length] 3 (0, 0))).cell? ⟨w.heap.size, 0, none⟩ = some (.slice A0 l0.length c0) := by simp
 have HI := Aside0.mk (collect_any (w.heap.size + 1) l0.length (by omega) ((w.alloc (.cells #[.slice A0 l0.length c0] 55 (0, 0))).alloc (.cells #[.int .i64 l0.length] 3 (0, 0))) (by simp) (by simp))
 have HX := Aside0.mk (fun Au cu W (hW : Below (w.heap.size + 1 + 1) ((w.alloc (.cells #[.slice A0 l0.length c0] 55 (0, 0))).alloc (.cells #[.int .i64 l0.length] 3 (0, 0))) W) (hu : ∀ j, j < l0.length → ∃ ad, Au = some ad ∧ W.cell? (ad.add j) = some (.int .i64 (j : Int))) =>
  ixi_walk A0 c0 l0 w.heap.size Au cu W (hGL.below (h2.trans (hW.mono (by omega)))) ((hW.cell (p := ⟨w.heap.size, 0, none⟩) (show w.heap.size < _ by omega)).trans hbox) (Kd.C_below hr (h2.trans (hW.mono (by omega)))) hl hu)
 have HB2 := Aside0.mk h2
 have HR := Aside0.mk hr
 clear hr hGL h1 h2 hbox hl
 generalize wrongOf l0 = r at *
 generalize l0.length = n at *
 go_enter Tryd.func60, Tryd.ntmps60
 go_wp2_with (first | (go_at_call 88; (with_reducible refine (indexes_walk _ _).mono ?_); rintro e w1 ⟨rfl, rfl⟩) | (go_at_call 87; (with_reducible refine HI.out.mono ?_); rintro e w3 ⟨A, c, rfl, hu, hb3⟩; have HB3 := Aside0.mk hb3; have HU := Aside0.mk hu; clear hb3 hu) | (go_at_call 86; (with_reducible refine (HX.out _ _ _ (HB3.out.mono (by simp)) HU.out).mono ?_); rintro e w4 ⟨rfl, hb4⟩; have HB4 := Aside0.mk hb4; clear hb4))
 go_ret
 have h3 := HB2.out.trans (HB3.out.mono (by simp; omega))
 exact ⟨rfl, h3.trans (HB4.out.mono h3.size)⟩
theorem pattern_Pattern_wrong.calls (A0_0 : Option Addr) (c0_0 : Nat) (l0_0 : List (S62)) (r : Int) (w : World) (hGL : GL w) (hr0_0 : Kd.C k62 w A0_0 l0_0.length l0_0) (hc0_0 : l0_0.length ≤ c0_0) (h : pattern_Pattern_wrong.f l0_0 = some r) :
  Calls Tryd.prog 60 #[.agg #[.slice A0_0 l0_0.length c0_0]] w fun e w' => e = .returned (.int .i64 r) ∧ Below w.heap.size w w' := by
 unfold pattern_Pattern_wrong.f at h
 by_cases hl : l0_0.length ≤ 1000000 ∧ l0_0.all (fun s => decide (s.f0.length ≤ 1000000)) = true
 ·rw [if_pos hl] at h
  obtain rfl := Option.some.inj h
  exact wrong_walk A0_0 c0_0 l0_0 w hGL hr0_0 hl.1 (fun s hs => of_decide_eq_true (List.all_eq_true.1 hl.2 s hs))
 ·rw [if_neg hl] at h; exact absurd h (by simp)
end Go.Proofs.YtmbhjogohfcjgaaDoor.P
