-- Laid by wip/tools/xprint.py, a program of this session's, over the kit's print. Lean checks it.
import Derived.Test.YtmbhjogohfcjgaaDoorP0
import Derived.Test.YtmbhjogohfcjgaaDoorP1
import Derived.Test.YtmbhjogohfcjgaaDoorP3
namespace Go.Proofs.YtmbhjogohfcjgaaDoor.P
open Go.RowKit Go.Proofs.YtmbhjogohfcjgaaDoorW.PrintWords Go.Proofs.YtmbhjogohfcjgaaDoorW.PrintLast Go.Proofs.YtmbhjogohfcjgaaDoorW.PrintMore
attribute [local go_sem] max2_int min2_int max_two min_two max_three min_three max_four min_four   -- for this text's walks alone
set_option linter.unusedVariables false
set_option linter.unusedSimpArgs false
mutual
def tabardref13_number.j0 : Nat → List (S98) → Int → Int → Bool → List (S98) → Bool → Int → Option (Int)
 | 0, _, _, _, _, _, _, _ => none
 | k + 1, x3, x5, x6, x48, x133000, x133001, x133002 => if x48 = true then (some 0) else (if x5 < (x3.length : Int) then (if 0 ≤ x5 then (if x5 ≤ (x3.length : Int) then ((tabardref13_count.f k (x3.drop (x5 : Int).toNat) 2).bind fun t153 => ((tabardref13_count.f k (x3.take (x5 : Int).toNat) 2).bind fun t158 => (if t158 = 0 then (tabardref13_number.j1 k true) else (if t153 < 1 then (tabardref13_number.j1 k true) else (if t153 > 4 then (tabardref13_number.j1 k true) else ((tabardref13_count.f k (x3.drop (x5 : Int).toNat) 3).bind fun t163 => (if t163 > 0 then (tabardref13_number.j1 k true) else (if x133001 = true then (tabardref13_number.j1 k true) else (tabardref13_number.j1 k (x133002 != 0)))))))))) else (none)) else (none)) else ((tabardref13_beside.f k x3).bind fun t164 => (if x133001 = true then (if t164 = true then (if x133002 < 0 then (some 0) else (if x133002 > 9 then (some 0) else (if x133002 > 0 then (if x6 = 0 then (some 0) else (some 2)) else (some 2)))) else (some 0)) else (if x133002 < 0 then (some 0) else (if x133002 > 9 then (some 0) else (if x133002 > 0 then (if x6 = 0 then (some 0) else (some 2)) else (some 2)))))))
def tabardref13_number.j1 : Nat → Bool → Option (Int)
 | 0, _ => none
 | k + 1, x85 => if x85 = true then (some 0) else (some 3)
end
def tabardref13_number.f (k : Nat) (l0_0 : List (S98)) (a0_1 : Bool) (a0_2 : Int) : Option (Int) := (tabardref13_WholeEnd.f k l0_0).bind fun t133 => ((tabardref13_at.f k l0_0 5).bind fun t134 => (if 0 ≤ t133 then (if t133 ≤ (l0_0.length : Int) then ((tabardref13_count.f k (l0_0.take (t133 : Int).toNat) 2).bind fun t139 => ((tabardref13_count.f k l0_0 2).bind fun t140 => (if t140 = 0 then (tabardref13_number.j0 k l0_0 t134 t139 true l0_0 a0_1 a0_2) else ((tabardref13_count.f k l0_0 3).bind fun t141 => (if t141 > 1 then (tabardref13_number.j0 k l0_0 t134 t139 true l0_0 a0_1 a0_2) else ((tabardref13_count.f k l0_0 4).bind fun t142 => (if t142 > 1 then (tabardref13_number.j0 k l0_0 t134 t139 true l0_0 a0_1 a0_2) else ((tabardref13_count.f k l0_0 5).bind fun t143 => (if t143 > 1 then (tabardref13_number.j0 k l0_0 t134 t139 true l0_0 a0_1 a0_2) else (if t139 > 30 then (tabardref13_number.j0 k l0_0 t134 t139 true l0_0 a0_1 a0_2) else (if t133 ≤ t134 then (if t134 ≤ (l0_0.length : Int) then ((tabardref13_count.f k ((l0_0.take (t134 : Int).toNat).drop (t133 : Int).toNat) 2).bind fun t148 => (tabardref13_number.j0 k l0_0 t134 t139 (decide (t148 > 30)) l0_0 a0_1 a0_2)) else (none)) else (none)))))))))))) else (none)) else (none)))
theorem tabardref13_number.mono_l : ∀ k, (∀ y0 y1 y2 y3 y4 y5 y6, LeO (tabardref13_number.j0 k y0 y1 y2 y3 y4 y5 y6) (tabardref13_number.j0 (k + 1) y0 y1 y2 y3 y4 y5 y6)) ∧ (∀ y0, LeO (tabardref13_number.j1 k y0) (tabardref13_number.j1 (k + 1) y0))
 | 0 => ⟨fun _ _ _ _ _ _ _ r h => by simp [tabardref13_number.j0] at h, fun _ r h => by simp [tabardref13_number.j1] at h⟩
 | k + 1 => by
  obtain ⟨ih0, ih1⟩ := tabardref13_number.mono_l k
  refine ⟨?_, ?_⟩
  ·intro y0 y1 y2 y3 y4 y5 y6
   unfold tabardref13_number.j0
   repeat' first
   | (with_reducible exact ih0 _ _ _ _ _ _ _)
   | (with_reducible exact ih1 _)
   | (with_reducible exact tabardref13_WholeEnd.mono _ _)
   | (with_reducible exact tabardref13_at.mono _ _ _)
   | (with_reducible exact tabardref13_beside.mono _ _)
   | (with_reducible exact tabardref13_count.mono _ _ _)
   | (with_reducible exact LeO.refl _)
   | (with_reducible exact LeO.none _)
   | (with_reducible refine LeO.ite ?_ ?_)
   | (with_reducible refine LeO.bind ?_ (fun _ => ?_))
   | exact ih0 _ _ _ _ _ _ _
   | exact ih1 _
   | exact tabardref13_WholeEnd.mono _ _
   | exact tabardref13_at.mono _ _ _
   | exact tabardref13_beside.mono _ _
   | exact tabardref13_count.mono _ _ _
   | exact LeO.none _
   | refine LeO.ite ?_ ?_
   | refine LeO.bind ?_ (fun _ => ?_)
  ·intro y0
   unfold tabardref13_number.j1
   repeat' first
   | (with_reducible exact ih0 _ _ _ _ _ _ _)
   | (with_reducible exact ih1 _)
   | (with_reducible exact tabardref13_WholeEnd.mono _ _)
   | (with_reducible exact tabardref13_at.mono _ _ _)
   | (with_reducible exact tabardref13_beside.mono _ _)
   | (with_reducible exact tabardref13_count.mono _ _ _)
   | (with_reducible exact LeO.refl _)
   | (with_reducible exact LeO.none _)
   | (with_reducible refine LeO.ite ?_ ?_)
   | (with_reducible refine LeO.bind ?_ (fun _ => ?_))
   | exact ih0 _ _ _ _ _ _ _
   | exact ih1 _
   | exact tabardref13_WholeEnd.mono _ _
   | exact tabardref13_at.mono _ _ _
   | exact tabardref13_beside.mono _ _
   | exact tabardref13_count.mono _ _ _
   | exact LeO.none _
   | refine LeO.ite ?_ ?_
   | refine LeO.bind ?_ (fun _ => ?_)
theorem tabardref13_number.mono : ∀ a0 a1 a2 k, LeO (tabardref13_number.f k a0 a1 a2) (tabardref13_number.f (k + 1) a0 a1 a2) := by
 intro a0 a1 a2 k
 obtain ⟨ih0, ih1⟩ := tabardref13_number.mono_l k
 unfold tabardref13_number.f
 repeat' first
   | (with_reducible exact ih0 _ _ _ _ _ _ _)
   | (with_reducible exact ih1 _)
   | (with_reducible exact tabardref13_WholeEnd.mono _ _)
   | (with_reducible exact tabardref13_at.mono _ _ _)
   | (with_reducible exact tabardref13_beside.mono _ _)
   | (with_reducible exact tabardref13_count.mono _ _ _)
   | (with_reducible exact LeO.refl _)
   | (with_reducible exact LeO.none _)
   | (with_reducible refine LeO.ite ?_ ?_)
   | (with_reducible refine LeO.bind ?_ (fun _ => ?_))
   | exact ih0 _ _ _ _ _ _ _
   | exact ih1 _
   | exact tabardref13_WholeEnd.mono _ _
   | exact tabardref13_at.mono _ _ _
   | exact tabardref13_beside.mono _ _
   | exact tabardref13_count.mono _ _ _
   | exact LeO.none _
   | refine LeO.ite ?_ ?_
   | refine LeO.bind ?_ (fun _ => ?_)
set_option maxHeartbeats 8000000 in
set_option maxRecDepth 100000 in
theorem tabardref13_number.calls (k : Nat) (A0_0 : Option Addr) (c0_0 : Nat) (l0_0 : List (S98)) (a0_1 : Bool) (a0_2 : Int) (r : Int) (w : World) (hr0_0 : Kd.C k98 w A0_0 l0_0.length l0_0) (hc0_0 : l0_0.length ≤ c0_0) (h : tabardref13_number.f k l0_0 a0_1 a0_2 = some r) :
  Calls Tryd.prog 59 #[.agg #[.slice A0_0 l0_0.length c0_0, .bool a0_1, .int .i64 a0_2]] w fun e w' => e = .returned (.int .i64 r) ∧ Below w.heap.size w w' := by
 have hu66 := Tryd.underlying66
 have HR0_0 := Aside0.mk hr0_0
 have HC0_0 := Aside0.mk hc0_0
 clear hr0_0 hc0_0
 have HB := Aside0.mk (Below.refl w.heap.size w)
 have H : ((tabardref13_WholeEnd.f k l0_0).bind fun t133 => ((tabardref13_at.f k l0_0 5).bind fun t134 => (if 0 ≤ t133 then (if t133 ≤ (l0_0.length : Int) then ((tabardref13_count.f k (l0_0.take (t133 : Int).toNat) 2).bind fun t139 => ((tabardref13_count.f k l0_0 2).bind fun t140 => (if t140 = 0 then (tabardref13_number.j0 k l0_0 t134 t139 true l0_0 a0_1 a0_2) else ((tabardref13_count.f k l0_0 3).bind fun t141 => (if t141 > 1 then (tabardref13_number.j0 k l0_0 t134 t139 true l0_0 a0_1 a0_2) else ((tabardref13_count.f k l0_0 4).bind fun t142 => (if t142 > 1 then (tabardref13_number.j0 k l0_0 t134 t139 true l0_0 a0_1 a0_2) else ((tabardref13_count.f k l0_0 5).bind fun t143 => (if t143 > 1 then (tabardref13_number.j0 k l0_0 t134 t139 true l0_0 a0_1 a0_2) else (if t139 > 30 then (tabardref13_number.j0 k l0_0 t134 t139 true l0_0 a0_1 a0_2) else (if t133 ≤ t134 then (if t134 ≤ (l0_0.length : Int) then ((tabardref13_count.f k ((l0_0.take (t134 : Int).toNat).drop (t133 : Int).toNat) 2).bind fun t148 => (tabardref13_number.j0 k l0_0 t134 t139 (decide (t148 > 30)) l0_0 a0_1 a0_2)) else (none)) else (none)))))))))))) else (none)) else (none)))) = some r := h
 clear h
 replace H := Option.bind_eq_some_iff.mp H
 obtain ⟨t133, A20, H⟩ := H
 replace H : ((tabardref13_at.f k l0_0 5).bind fun t134 => (if 0 ≤ t133 then (if t133 ≤ (l0_0.length : Int) then ((tabardref13_count.f k (l0_0.take (t133 : Int).toNat) 2).bind fun t139 => ((tabardref13_count.f k l0_0 2).bind fun t140 => (if t140 = 0 then (tabardref13_number.j0 k l0_0 t134 t139 true l0_0 a0_1 a0_2) else ((tabardref13_count.f k l0_0 3).bind fun t141 => (if t141 > 1 then (tabardref13_number.j0 k l0_0 t134 t139 true l0_0 a0_1 a0_2) else ((tabardref13_count.f k l0_0 4).bind fun t142 => (if t142 > 1 then (tabardref13_number.j0 k l0_0 t134 t139 true l0_0 a0_1 a0_2) else ((tabardref13_count.f k l0_0 5).bind fun t143 => (if t143 > 1 then (tabardref13_number.j0 k l0_0 t134 t139 true l0_0 a0_1 a0_2) else (if t139 > 30 then (tabardref13_number.j0 k l0_0 t134 t139 true l0_0 a0_1 a0_2) else (if t133 ≤ t134 then (if t134 ≤ (l0_0.length : Int) then ((tabardref13_count.f k ((l0_0.take (t134 : Int).toNat).drop (t133 : Int).toNat) 2).bind fun t148 => (tabardref13_number.j0 k l0_0 t134 t139 (decide (t148 > 30)) l0_0 a0_1 a0_2)) else (none)) else (none)))))))))))) else (none)) else (none))) = some r := H
 have A2 := Aside0.mk A20
 clear A20
 replace H := Option.bind_eq_some_iff.mp H
 obtain ⟨t134, A30, H⟩ := H
 replace H : (if 0 ≤ t133 then (if t133 ≤ (l0_0.length : Int) then ((tabardref13_count.f k (l0_0.take (t133 : Int).toNat) 2).bind fun t139 => ((tabardref13_count.f k l0_0 2).bind fun t140 => (if t140 = 0 then (tabardref13_number.j0 k l0_0 t134 t139 true l0_0 a0_1 a0_2) else ((tabardref13_count.f k l0_0 3).bind fun t141 => (if t141 > 1 then (tabardref13_number.j0 k l0_0 t134 t139 true l0_0 a0_1 a0_2) else ((tabardref13_count.f k l0_0 4).bind fun t142 => (if t142 > 1 then (tabardref13_number.j0 k l0_0 t134 t139 true l0_0 a0_1 a0_2) else ((tabardref13_count.f k l0_0 5).bind fun t143 => (if t143 > 1 then (tabardref13_number.j0 k l0_0 t134 t139 true l0_0 a0_1 a0_2) else (if t139 > 30 then (tabardref13_number.j0 k l0_0 t134 t139 true l0_0 a0_1 a0_2) else (if t133 ≤ t134 then (if t134 ≤ (l0_0.length : Int) then ((tabardref13_count.f k ((l0_0.take (t134 : Int).toNat).drop (t133 : Int).toNat) 2).bind fun t148 => (tabardref13_number.j0 k l0_0 t134 t139 (decide (t148 > 30)) l0_0 a0_1 a0_2)) else (none)) else (none)))))))))))) else (none)) else (none)) = some r := H
 have A3 := Aside0.mk A30
 clear A30
 by_cases c4 : 0 ≤ t133
 ·rw [if_pos c4] at H
  have c4b0 := eq_true c4
  have c4b1 : decide (0 ≤ t133) = true := decide_eq_true c4
  clear c4
  by_cases c5 : t133 ≤ (l0_0.length : Int)
  ·rw [if_pos c5] at H
   have c5b0 := eq_true c5
   have c5b1 : decide (t133 ≤ (l0_0.length : Int)) = true := decide_eq_true c5
   clear c5
   obtain ⟨y135, hy135⟩ : ∃ y_ : List (S98), y_ = (l0_0.take (t133 : Int).toNat) := ⟨_, rfl⟩
   replace H : ((tabardref13_count.f k y135 2).bind fun t139 => ((tabardref13_count.f k l0_0 2).bind fun t140 => (if t140 = 0 then (tabardref13_number.j0 k l0_0 t134 t139 true l0_0 a0_1 a0_2) else ((tabardref13_count.f k l0_0 3).bind fun t141 => (if t141 > 1 then (tabardref13_number.j0 k l0_0 t134 t139 true l0_0 a0_1 a0_2) else ((tabardref13_count.f k l0_0 4).bind fun t142 => (if t142 > 1 then (tabardref13_number.j0 k l0_0 t134 t139 true l0_0 a0_1 a0_2) else ((tabardref13_count.f k l0_0 5).bind fun t143 => (if t143 > 1 then (tabardref13_number.j0 k l0_0 t134 t139 true l0_0 a0_1 a0_2) else (if t139 > 30 then (tabardref13_number.j0 k l0_0 t134 t139 true l0_0 a0_1 a0_2) else (if t133 ≤ t134 then (if t134 ≤ (l0_0.length : Int) then ((tabardref13_count.f k ((l0_0.take (t134 : Int).toNat).drop (t133 : Int).toNat) 2).bind fun t148 => (tabardref13_number.j0 k l0_0 t134 t139 (decide (t148 > 30)) l0_0 a0_1 a0_2)) else (none)) else (none)))))))))))) = some r := by first | (rw [hy135]; with_reducible exact H) | (have H2_ := (Option.bind_some _ _).symm.trans H; rw [hy135]; with_reducible exact H2_) | (have H2_ := (Option.bind_some _ _).symm.trans H; with_reducible exact H2_) | with_reducible exact H | (rw [hy135]; exact H) | exact H
   have Ny135 := Aside0.mk hy135
   clear hy135
   replace H := Option.bind_eq_some_iff.mp H
   obtain ⟨t139, A60, H⟩ := H
   replace H : ((tabardref13_count.f k l0_0 2).bind fun t140 => (if t140 = 0 then (tabardref13_number.j0 k l0_0 t134 t139 true l0_0 a0_1 a0_2) else ((tabardref13_count.f k l0_0 3).bind fun t141 => (if t141 > 1 then (tabardref13_number.j0 k l0_0 t134 t139 true l0_0 a0_1 a0_2) else ((tabardref13_count.f k l0_0 4).bind fun t142 => (if t142 > 1 then (tabardref13_number.j0 k l0_0 t134 t139 true l0_0 a0_1 a0_2) else ((tabardref13_count.f k l0_0 5).bind fun t143 => (if t143 > 1 then (tabardref13_number.j0 k l0_0 t134 t139 true l0_0 a0_1 a0_2) else (if t139 > 30 then (tabardref13_number.j0 k l0_0 t134 t139 true l0_0 a0_1 a0_2) else (if t133 ≤ t134 then (if t134 ≤ (l0_0.length : Int) then ((tabardref13_count.f k ((l0_0.take (t134 : Int).toNat).drop (t133 : Int).toNat) 2).bind fun t148 => (tabardref13_number.j0 k l0_0 t134 t139 (decide (t148 > 30)) l0_0 a0_1 a0_2)) else (none)) else (none))))))))))) = some r := H
   have A6 := Aside0.mk A60
   clear A60
   have HC7 := Aside0.mk H
   clear H
   go_enter Tryd.func59, Tryd.ntmps59
   go_upto_region 5 with (first | ((with_reducible refine gate_dst (N := 1) rfl ?_); refine box_event ?hg (N := 1) ?hd (cs := #[.slice A0_0 l0_0.length c0_0, .bool a0_1, .int .i64 a0_2]) (t := 66) ?hr ?_; (case hd => rfl); (case hg => rfl); (case hr => exact Z18); intro gb132 hg w8 hbox hb; have n0_ := Aside0.mk (below_step Z2 hb); have n1_ := Aside0.mk (hbox); have n2_ := Aside0.mk ((by rw [hg]; exact (below_size Z2) : w.heap.size ≤ gb132)); have n3_ := Aside0.mk ((by rw [hg]; exact (below_size Z2) : w.heap.size ≤ gb132)); clear HB; have HB := n0_; have BK132 := n1_; have GW132 := n2_; have GE132 := n3_; clear n0_ n1_ n2_ n3_; clear hb hbox hg; have hcz9_0 : w8.cell? ⟨gb132, 0, none⟩ = some (.slice A0_0 l0_0.length c0_0) := (blk_cell BK132.out 0).trans rfl; have hcz9_1 : w8.cell? ⟨gb132, 1, none⟩ = some (.bool a0_1) := (blk_cell BK132.out 1).trans rfl; have hcz9_2 : w8.cell? ⟨gb132, 2, none⟩ = some (.int .i64 a0_2) := (blk_cell BK132.out 2).trans rfl; have hfz9_0 := blk_frozen BK132.out 0; have hfz9_1 := blk_frozen BK132.out 1; have hfz9_2 := blk_frozen BK132.out 2) | ((with_reducible refine gate_callee (f := 64) rfl ?_); refine goesL_ (some 12) rfl rfl Tryd.func64 (by kernel_rfl) rfl #[.slice A0_0 l0_0.length c0_0] rfl Z3 ?_; (with_reducible refine (tabardref13_WholeEnd.calls k _ _ l0_0 t133 _ ?side1 ?side2 A2.out).mono ?_); (case side1 => exact Z7); (case side2 => exact Z39); rintro e w10 ⟨rfl, hb⟩; refine ⟨_, rfl, ?_⟩; have n0_ := Aside0.mk (blk_below (g := gb132) (o := .cells #[.slice A0_0 l0_0.length c0_0, .bool a0_1, .int .i64 a0_2] 66 (0, 0)) Z27 hb); have n1_ := Aside0.mk (below_step Z9 hb); clear BK132; clear HB; have BK132 := n0_; have HB := n1_; clear n0_ n1_; (try clear hb); (try clear hb2); (try clear hk); (try clear hi)) | ((with_reducible refine gate_callee (f := 84) rfl ?_); refine goesL_ (some 14) rfl rfl Tryd.func84 (by kernel_rfl) rfl #[.slice A0_0 l0_0.length c0_0, .int .i64 5] rfl Z3 ?_; (with_reducible refine (tabardref13_at.calls k _ _ l0_0 5 t134 _ ?side1 ?side2 A3.out).mono ?_); (case side1 => exact Z7); (case side2 => exact Z39); rintro e w' ⟨rfl, ⟨nd, rfl⟩⟩; refine ⟨_, rfl, ?_⟩; have q11 : (t133 : Int) ≤ ((l0_0.length : Int) : Int) := of_decide_eq_true Z6; obtain ⟨i011, hi011, _, hsz11, _⟩ := info_parts info98; have hroom11 : l0_0.length ≤ c0_0 := HC0_0.out; have hC11 : Kd.C k98 _ A0_0 l0_0.length l0_0 := HR0_0.out; have hcut11 := cut_to (P := Tryd.prog) 64 98 .i64 Tryd.underlying64 hi011 A0_0 l0_0.length c0_0 t133 (of_decide_eq_true Z6) q11 hroom11; have hr11 := Kd.C_take (m := (t133 : Int).toNat) hC11 (by omega); have hy11 : y135.length = (t133 : Int).toNat := (by rw [Ny135.out, List.length_take]; omega); rw [← Ny135.out] at hr11; rw [← hy11] at hcut11; have HR138 := Aside0.mk hr11; have HC138 := Aside0.mk (show y135.length ≤ c0_0 from by omega); clear hr11 hC11 hroom11 hi011 hsz11; have KY11 := Aside0.mk hy11; clear hy11; replace q11 := eq_true q11) | ((with_reducible refine gate_callee (f := 57) rfl ?_); refine goesL_ (some 18) rfl rfl Tryd.func57 (by kernel_rfl) rfl #[.slice A0_0 y135.length c0_0, .int .i64 2] rfl Z3 ?_; (with_reducible refine (tabardref13_count.calls k _ _ y135 2 t139 _ ?side1 ?side2 A6.out).mono ?_); (case side1 => repeat (first | exact (Kd.C_below HR138.out Z9) | (with_reducible refine Kd.C_alloc ?_ _) | (with_reducible refine Kd.C_drewN ?_ _) | (with_reducible refine Kd.C_drew ?_))); (case side2 => exact HC138.out); rintro e w' ⟨rfl, ⟨nd, rfl⟩⟩; refine ⟨_, rfl, ?_⟩))
   (try simp only [Act.put, List.setIfInBounds_toArray, List.set_cons_zero, List.set_cons_succ])
   go_cut [48] (fun v48 wc => ∃ (kq : Nat) (x48_6 : Bool), v48 = .bool x48_6 ∧ Aside0 (tabardref13_number.j0 kq l0_0 t134 t139 x48_6 l0_0 a0_1 a0_2 = some r) ∧ Aside0 (kq ≤ k) ∧ Aside0 (wc.heap[gb132]? = some (.cells #[(.slice A0_0 l0_0.length c0_0), .bool a0_1, .int .i64 a0_2] 66 (0, 0))) ∧ Aside0 (Below w.heap.size w wc))
   case first =>
    have H := HC7.out
    clear HC7
    replace H := Option.bind_eq_some_iff.mp H
    obtain ⟨t140, A120, H⟩ := H
    replace H : (if t140 = 0 then (tabardref13_number.j0 k l0_0 t134 t139 true l0_0 a0_1 a0_2) else ((tabardref13_count.f k l0_0 3).bind fun t141 => (if t141 > 1 then (tabardref13_number.j0 k l0_0 t134 t139 true l0_0 a0_1 a0_2) else ((tabardref13_count.f k l0_0 4).bind fun t142 => (if t142 > 1 then (tabardref13_number.j0 k l0_0 t134 t139 true l0_0 a0_1 a0_2) else ((tabardref13_count.f k l0_0 5).bind fun t143 => (if t143 > 1 then (tabardref13_number.j0 k l0_0 t134 t139 true l0_0 a0_1 a0_2) else (if t139 > 30 then (tabardref13_number.j0 k l0_0 t134 t139 true l0_0 a0_1 a0_2) else (if t133 ≤ t134 then (if t134 ≤ (l0_0.length : Int) then ((tabardref13_count.f k ((l0_0.take (t134 : Int).toNat).drop (t133 : Int).toNat) 2).bind fun t148 => (tabardref13_number.j0 k l0_0 t134 t139 (decide (t148 > 30)) l0_0 a0_1 a0_2)) else (none)) else (none)))))))))) = some r := H
    have A12 := Aside0.mk A120
    clear A120
    by_cases c13 : t140 = 0
    ·rw [if_pos c13] at H
     have c13b0 : (t140 == 0) = true := beq_iff_eq.mpr c13
     have c13b1 : (t140 != 0) = false := bne_eq_false_iff_eq.mpr c13
     clear c13
     (first | rw [c13b0] | (simp only [i64_w, i32_w]; rw [c13b0]) | skip)
     have H' := Aside0.mk H
     clear H
     go_wp2_with (first | ((with_reducible refine gate_callee (f := 57) rfl ?_); refine goesL_ (some 20) rfl rfl Tryd.func57 (by kernel_rfl) rfl #[.slice A0_0 l0_0.length c0_0, .int .i64 2] rfl Z3 ?_; (with_reducible refine (tabardref13_count.calls k _ _ l0_0 2 t140 _ ?side1 ?side2 A12.out).mono ?_); (case side1 => exact Z7); (case side2 => exact Z39); rintro e w' ⟨rfl, ⟨nd, rfl⟩⟩; refine ⟨_, rfl, ?_⟩))
     go_meet
     case rel => exact Z25
    ·rw [if_neg c13] at H
     have c13b0 : (t140 == 0) = false := beq_eq_false_iff_ne.mpr c13
     have c13b1 : (t140 != 0) = true := bne_iff_ne.mpr c13
     (first | rw [c13b0] | (simp only [i64_w, i32_w]; rw [c13b0]) | skip)
     replace H := Option.bind_eq_some_iff.mp H
     obtain ⟨t141, A140, H⟩ := H
     replace H : (if t141 > 1 then (tabardref13_number.j0 k l0_0 t134 t139 true l0_0 a0_1 a0_2) else ((tabardref13_count.f k l0_0 4).bind fun t142 => (if t142 > 1 then (tabardref13_number.j0 k l0_0 t134 t139 true l0_0 a0_1 a0_2) else ((tabardref13_count.f k l0_0 5).bind fun t143 => (if t143 > 1 then (tabardref13_number.j0 k l0_0 t134 t139 true l0_0 a0_1 a0_2) else (if t139 > 30 then (tabardref13_number.j0 k l0_0 t134 t139 true l0_0 a0_1 a0_2) else (if t133 ≤ t134 then (if t134 ≤ (l0_0.length : Int) then ((tabardref13_count.f k ((l0_0.take (t134 : Int).toNat).drop (t133 : Int).toNat) 2).bind fun t148 => (tabardref13_number.j0 k l0_0 t134 t139 (decide (t148 > 30)) l0_0 a0_1 a0_2)) else (none)) else (none)))))))) = some r := H
     have A14 := Aside0.mk A140
     clear A140
     by_cases c15 : t141 > 1
     ·rw [if_pos c15] at H
      have c15b0 : decide (1 < t141) = true := decide_eq_true c15
      clear c15
      have H' := Aside0.mk H
      clear H
      go_wp2_with (first | ((with_reducible refine gate_callee (f := 57) rfl ?_); refine goesL_ (some 20) rfl rfl Tryd.func57 (by kernel_rfl) rfl #[.slice A0_0 l0_0.length c0_0, .int .i64 2] rfl Z3 ?_; (with_reducible refine (tabardref13_count.calls k _ _ l0_0 2 t140 _ ?side1 ?side2 A12.out).mono ?_); (case side1 => exact Z7); (case side2 => exact Z39); rintro e w' ⟨rfl, ⟨nd, rfl⟩⟩; refine ⟨_, rfl, ?_⟩) | (go_at_call 57; (with_reducible refine (tabardref13_count.calls k _ _ l0_0 3 t141 _ ?side1 ?side2 A14.out).mono ?_); (case side1 => exact Z20); (case side2 => exact Z39); rintro e w' ⟨rfl, ⟨nd, rfl⟩⟩))
      go_meet
      case rel => exact Z25
     ·rw [if_neg c15] at H
      have c15b0 : decide (1 < t141) = false := decide_eq_false c15
      clear c15
      replace H := Option.bind_eq_some_iff.mp H
      obtain ⟨t142, A160, H⟩ := H
      replace H : (if t142 > 1 then (tabardref13_number.j0 k l0_0 t134 t139 true l0_0 a0_1 a0_2) else ((tabardref13_count.f k l0_0 5).bind fun t143 => (if t143 > 1 then (tabardref13_number.j0 k l0_0 t134 t139 true l0_0 a0_1 a0_2) else (if t139 > 30 then (tabardref13_number.j0 k l0_0 t134 t139 true l0_0 a0_1 a0_2) else (if t133 ≤ t134 then (if t134 ≤ (l0_0.length : Int) then ((tabardref13_count.f k ((l0_0.take (t134 : Int).toNat).drop (t133 : Int).toNat) 2).bind fun t148 => (tabardref13_number.j0 k l0_0 t134 t139 (decide (t148 > 30)) l0_0 a0_1 a0_2)) else (none)) else (none)))))) = some r := H
      have A16 := Aside0.mk A160
      clear A160
      by_cases c17 : t142 > 1
      ·rw [if_pos c17] at H
       have c17b0 : decide (1 < t142) = true := decide_eq_true c17
       clear c17
       have H' := Aside0.mk H
       clear H
       go_wp2_with (first | ((with_reducible refine gate_callee (f := 57) rfl ?_); refine goesL_ (some 20) rfl rfl Tryd.func57 (by kernel_rfl) rfl #[.slice A0_0 l0_0.length c0_0, .int .i64 2] rfl Z3 ?_; (with_reducible refine (tabardref13_count.calls k _ _ l0_0 2 t140 _ ?side1 ?side2 A12.out).mono ?_); (case side1 => exact Z7); (case side2 => exact Z39); rintro e w' ⟨rfl, ⟨nd, rfl⟩⟩; refine ⟨_, rfl, ?_⟩) | (go_at_call 57; (with_reducible refine (tabardref13_count.calls k _ _ l0_0 3 t141 _ ?side1 ?side2 A14.out).mono ?_); (case side1 => exact Z20); (case side2 => exact Z39); rintro e w' ⟨rfl, ⟨nd, rfl⟩⟩) | (go_at_call 57; (with_reducible refine (tabardref13_count.calls k _ _ l0_0 4 t142 _ ?side1 ?side2 A16.out).mono ?_); (case side1 => exact Z20); (case side2 => exact Z39); rintro e w' ⟨rfl, ⟨nd, rfl⟩⟩))
       go_meet
       case rel => exact Z25
      ·rw [if_neg c17] at H
       have c17b0 : decide (1 < t142) = false := decide_eq_false c17
       clear c17
       replace H := Option.bind_eq_some_iff.mp H
       obtain ⟨t143, A180, H⟩ := H
       replace H : (if t143 > 1 then (tabardref13_number.j0 k l0_0 t134 t139 true l0_0 a0_1 a0_2) else (if t139 > 30 then (tabardref13_number.j0 k l0_0 t134 t139 true l0_0 a0_1 a0_2) else (if t133 ≤ t134 then (if t134 ≤ (l0_0.length : Int) then ((tabardref13_count.f k ((l0_0.take (t134 : Int).toNat).drop (t133 : Int).toNat) 2).bind fun t148 => (tabardref13_number.j0 k l0_0 t134 t139 (decide (t148 > 30)) l0_0 a0_1 a0_2)) else (none)) else (none)))) = some r := H
       have A18 := Aside0.mk A180
       clear A180
       by_cases c19 : t143 > 1
       ·rw [if_pos c19] at H
        have c19b0 : decide (1 < t143) = true := decide_eq_true c19
        clear c19
        have H' := Aside0.mk H
        clear H
        go_wp2_with (first | ((with_reducible refine gate_callee (f := 57) rfl ?_); refine goesL_ (some 20) rfl rfl Tryd.func57 (by kernel_rfl) rfl #[.slice A0_0 l0_0.length c0_0, .int .i64 2] rfl Z3 ?_; (with_reducible refine (tabardref13_count.calls k _ _ l0_0 2 t140 _ ?side1 ?side2 A12.out).mono ?_); (case side1 => exact Z7); (case side2 => exact Z39); rintro e w' ⟨rfl, ⟨nd, rfl⟩⟩; refine ⟨_, rfl, ?_⟩) | (go_at_call 57; (with_reducible refine (tabardref13_count.calls k _ _ l0_0 3 t141 _ ?side1 ?side2 A14.out).mono ?_); (case side1 => exact Z20); (case side2 => exact Z39); rintro e w' ⟨rfl, ⟨nd, rfl⟩⟩) | (go_at_call 57; (with_reducible refine (tabardref13_count.calls k _ _ l0_0 4 t142 _ ?side1 ?side2 A16.out).mono ?_); (case side1 => exact Z20); (case side2 => exact Z39); rintro e w' ⟨rfl, ⟨nd, rfl⟩⟩) | (go_at_call 57; (with_reducible refine (tabardref13_count.calls k _ _ l0_0 5 t143 _ ?side1 ?side2 A18.out).mono ?_); (case side1 => exact Z20); (case side2 => exact Z39); rintro e w' ⟨rfl, ⟨nd, rfl⟩⟩))
        go_meet
        case rel => exact Z25
       ·rw [if_neg c19] at H
        have c19b0 : decide (1 < t143) = false := decide_eq_false c19
        clear c19
        by_cases c20 : t139 > 30
        ·rw [if_pos c20] at H
         have c20b0 : decide (30 < t139) = true := decide_eq_true c20
         clear c20
         have H' := Aside0.mk H
         clear H
         go_wp2_with (first | ((with_reducible refine gate_callee (f := 57) rfl ?_); refine goesL_ (some 20) rfl rfl Tryd.func57 (by kernel_rfl) rfl #[.slice A0_0 l0_0.length c0_0, .int .i64 2] rfl Z3 ?_; (with_reducible refine (tabardref13_count.calls k _ _ l0_0 2 t140 _ ?side1 ?side2 A12.out).mono ?_); (case side1 => exact Z7); (case side2 => exact Z39); rintro e w' ⟨rfl, ⟨nd, rfl⟩⟩; refine ⟨_, rfl, ?_⟩) | (go_at_call 57; (with_reducible refine (tabardref13_count.calls k _ _ l0_0 3 t141 _ ?side1 ?side2 A14.out).mono ?_); (case side1 => exact Z20); (case side2 => exact Z39); rintro e w' ⟨rfl, ⟨nd, rfl⟩⟩) | (go_at_call 57; (with_reducible refine (tabardref13_count.calls k _ _ l0_0 4 t142 _ ?side1 ?side2 A16.out).mono ?_); (case side1 => exact Z20); (case side2 => exact Z39); rintro e w' ⟨rfl, ⟨nd, rfl⟩⟩) | (go_at_call 57; (with_reducible refine (tabardref13_count.calls k _ _ l0_0 5 t143 _ ?side1 ?side2 A18.out).mono ?_); (case side1 => exact Z20); (case side2 => exact Z39); rintro e w' ⟨rfl, ⟨nd, rfl⟩⟩))
         go_meet
         case rel => exact Z25
        ·rw [if_neg c20] at H
         have c20b0 : decide (30 < t139) = false := decide_eq_false c20
         clear c20
         have c21b0 := eq_true (of_decide_eq_true Z6 : 0 ≤ t133)
         by_cases c22 : t133 ≤ t134
         ·rw [if_pos c22] at H
          have c22b0 := eq_true c22
          have c22b1 : decide (t133 ≤ t134) = true := decide_eq_true c22
          clear c22
          by_cases c23 : t134 ≤ (l0_0.length : Int)
          ·rw [if_pos c23] at H
           have c23b0 := eq_true c23
           have c23b1 : decide (t134 ≤ (l0_0.length : Int)) = true := decide_eq_true c23
           clear c23
           obtain ⟨y144, hy144⟩ : ∃ y_ : List (S98), y_ = ((l0_0.take (t134 : Int).toNat).drop (t133 : Int).toNat) := ⟨_, rfl⟩
           replace H : ((tabardref13_count.f k y144 2).bind fun t148 => (tabardref13_number.j0 k l0_0 t134 t139 (decide (t148 > 30)) l0_0 a0_1 a0_2)) = some r := by first | (rw [hy144]; with_reducible exact H) | (have H2_ := (Option.bind_some _ _).symm.trans H; rw [hy144]; with_reducible exact H2_) | (have H2_ := (Option.bind_some _ _).symm.trans H; with_reducible exact H2_) | with_reducible exact H | (rw [hy144]; exact H) | exact H
           have Ny144 := Aside0.mk hy144
           clear hy144
           replace H := Option.bind_eq_some_iff.mp H
           obtain ⟨t148, A240, H⟩ := H
           replace H : (tabardref13_number.j0 k l0_0 t134 t139 (decide (t148 > 30)) l0_0 a0_1 a0_2) = some r := H
           have A24 := Aside0.mk A240
           clear A240
           have H' := Aside0.mk H
           clear H
           go_wp2_with (first | ((with_reducible refine gate_callee (f := 57) rfl ?_); refine goesL_ (some 20) rfl rfl Tryd.func57 (by kernel_rfl) rfl #[.slice A0_0 l0_0.length c0_0, .int .i64 2] rfl Z3 ?_; (with_reducible refine (tabardref13_count.calls k _ _ l0_0 2 t140 _ ?side1 ?side2 A12.out).mono ?_); (case side1 => exact Z7); (case side2 => exact Z39); rintro e w' ⟨rfl, ⟨nd, rfl⟩⟩; refine ⟨_, rfl, ?_⟩) | (go_at_call 57; (with_reducible refine (tabardref13_count.calls k _ _ l0_0 3 t141 _ ?side1 ?side2 A14.out).mono ?_); (case side1 => exact Z20); (case side2 => exact Z39); rintro e w' ⟨rfl, ⟨nd, rfl⟩⟩) | (go_at_call 57; (with_reducible refine (tabardref13_count.calls k _ _ l0_0 4 t142 _ ?side1 ?side2 A16.out).mono ?_); (case side1 => exact Z20); (case side2 => exact Z39); rintro e w' ⟨rfl, ⟨nd, rfl⟩⟩) | (go_at_call 57; (with_reducible refine (tabardref13_count.calls k _ _ l0_0 5 t143 _ ?side1 ?side2 A18.out).mono ?_); (case side1 => exact Z20); (case side2 => exact Z39); rintro e w' ⟨rfl, ⟨nd, rfl⟩⟩; have q25 : (t134 : Int) ≤ ((l0_0.length : Int) : Int) := of_decide_eq_true Z6; obtain ⟨i025, hi025, _, hsz25, _⟩ := info_parts info98; have hroom25 : l0_0.length ≤ c0_0 := HC0_0.out; have hC25 : Kd.C k98 _ A0_0 l0_0.length l0_0 := HR0_0.out; have ql25 : (t133 : Int) ≤ (t134 : Int) := of_decide_eq_true Z6; have q025 : (0 : Int) ≤ (t133 : Int) := of_decide_eq_true Z6; have hcut25 := cut_mid (P := Tryd.prog) 64 98 .i64 .i64 Tryd.underlying64 hi025 2 hsz25 A0_0 l0_0.length c0_0 t133 t134 q025 ql25 q25 hroom25; have hr25 := Kd.C_mid (lo := (t133 : Int).toNat) (hi := (t134 : Int).toNat) (c := c0_0) hC25 (by omega) (by omega) hroom25; obtain ⟨A25, hA25⟩ : ∃ A1, A1 = (if c0_0 = (t133 : Int).toNat then A0_0 else (A0_0 : Option Addr).map (·.add ((t133 : Int).toNat * 2))) := ⟨_, rfl⟩; obtain ⟨c25, hc25⟩ : ∃ c1, c1 = c0_0 - (t133 : Int).toNat := ⟨_, rfl⟩; have hy25 : y144.length = (t134 : Int).toNat - (t133 : Int).toNat := (by rw [Ny144.out, List.length_drop, List.length_take] <;> omega); rw [show ((l0_0).take (t134 : Int).toNat).drop (t133 : Int).toNat = y144 from Ny144.out.symm] at hr25; replace hr25 : Kd.C k98 _ A25 y144.length y144 := (by rw [hA25]; exact hr25); rw [← hy25, ← hA25, ← hc25] at hcut25; have HR147 := Aside0.mk hr25; have HC147 := Aside0.mk (show y144.length ≤ c25 from by rw [hy25, hc25]; exact Nat.sub_le_sub_right (Nat.le_trans (by omega) hroom25) _); clear hr25 hC25 hroom25 hi025 hsz25 hc25; have KY25 := Aside0.mk hy25; have KA25 := Aside0.mk hA25; clear hy25 hA25; replace q25 := eq_true q25) | (go_at_call 57; (with_reducible refine (tabardref13_count.calls k _ _ y144 2 t148 _ ?side1 ?side2 A24.out).mono ?_); (case side1 => repeat (first | exact (Kd.C_below HR147.out Z9) | (with_reducible refine Kd.C_alloc ?_ _) | (with_reducible refine Kd.C_drewN ?_ _) | (with_reducible refine Kd.C_drew ?_))); (case side2 => exact HC147.out); rintro e w' ⟨rfl, ⟨nd, rfl⟩⟩))
           go_meet
           case rel => exact ⟨_, (decide (t148 > 30)), Z5, H', ⟨by first | omega | exact Nat.le_refl _⟩, ⟨by (with_reducible repeat (first | refine blk_drewN ?_ _ | refine blk_drew ?_ | refine blk_alloc ?_ _)); exact BK132.out⟩, ⟨by repeat (first | (with_reducible first | exact HB.out | apply below_alloc | apply pw_below_drewN | apply below_drew1 | refine below_set ?_ GE132.out) | exact HB.out)⟩⟩
          ·rw [if_neg c23] at H
           exact Z33
         ·rw [if_neg c22] at H
          exact Z33
   case rest =>
    clear HC7
    try clear c1
    try clear q1
    try clear c2
    try clear p2
    try clear q2
    try clear c4
    try clear c4b0
    try clear c4b1
    try clear c5
    try clear c5b0
    try clear c5b1
    try clear c6
    try clear c8
    try clear q11
    try clear c13
    try clear c13b0
    try clear c13b1
    try clear c15
    try clear c15b0
    try clear c17
    try clear c17b0
    try clear c19
    try clear c19b0
    try clear c20
    try clear c20b0
    try clear c21
    try clear c21b0
    try clear c22
    try clear c22b0
    try clear c22b1
    try clear c23
    try clear c23b0
    try clear c23b1
    try clear c25
    try clear q25
    try clear hcz9_0
    try clear hcz9_1
    try clear hcz9_2
    try clear hfz9_0
    try clear hfz9_1
    try clear hfz9_2
    try clear q025
    try clear q11
    try clear q25
    obtain ⟨kq, x48_6, rfl, HA, HJ6, BK132, HB⟩ := hcut
    cases kq with
    | zero => exact absurd HA.out (by simp [tabardref13_number.j0])
    | succ kj6 =>
     have H := HA.out
     clear HA
     simp only [tabardref13_number.j0] at H
     by_cases c26 : x48_6 = true
     ·subst c26
      have H1 : (some 0) = some r := by rw [if_pos rfl] at H; exact H
      clear H
      have H := H1
      clear H1
      obtain rfl := Option.some.inj H
      go_wp2
      go_ret
      exact Z10
     ·replace c26 := Bool.eq_false_iff.mpr c26
      subst c26
      have H1 : (if t134 < (l0_0.length : Int) then (if 0 ≤ t134 then (if t134 ≤ (l0_0.length : Int) then ((tabardref13_count.f kj6 (l0_0.drop (t134 : Int).toNat) 2).bind fun t153 => ((tabardref13_count.f kj6 (l0_0.take (t134 : Int).toNat) 2).bind fun t158 => (if t158 = 0 then (tabardref13_number.j1 kj6 true) else (if t153 < 1 then (tabardref13_number.j1 kj6 true) else (if t153 > 4 then (tabardref13_number.j1 kj6 true) else ((tabardref13_count.f kj6 (l0_0.drop (t134 : Int).toNat) 3).bind fun t163 => (if t163 > 0 then (tabardref13_number.j1 kj6 true) else (if a0_1 = true then (tabardref13_number.j1 kj6 true) else (tabardref13_number.j1 kj6 (a0_2 != 0)))))))))) else (none)) else (none)) else ((tabardref13_beside.f kj6 l0_0).bind fun t164 => (if a0_1 = true then (if t164 = true then (if a0_2 < 0 then (some 0) else (if a0_2 > 9 then (some 0) else (if a0_2 > 0 then (if t139 = 0 then (some 0) else (some 2)) else (some 2)))) else (some 0)) else (if a0_2 < 0 then (some 0) else (if a0_2 > 9 then (some 0) else (if a0_2 > 0 then (if t139 = 0 then (some 0) else (some 2)) else (some 2))))))) = some r := by rw [if_neg (show ¬ (false = true) by decide)] at H; exact H
      clear H
      have H := H1
      clear H1
      by_cases c27 : t134 < (l0_0.length : Int)
      ·rw [if_pos c27] at H
       have c27b0 : decide (t134 < (l0_0.length : Int)) = true := decide_eq_true c27
       clear c27
       by_cases c28 : 0 ≤ t134
       ·rw [if_pos c28] at H
        have c28b0 := eq_true c28
        have c28b1 : decide (0 ≤ t134) = true := decide_eq_true c28
        clear c28
        by_cases c29 : t134 ≤ (l0_0.length : Int)
        ·rw [if_pos c29] at H
         have c29b0 := eq_true c29
         have c29b1 : decide (t134 ≤ (l0_0.length : Int)) = true := decide_eq_true c29
         clear c29
         obtain ⟨y149, hy149⟩ : ∃ y_ : List (S98), y_ = (l0_0.drop (t134 : Int).toNat) := ⟨_, rfl⟩
         replace H : ((tabardref13_count.f kj6 y149 2).bind fun t153 => ((tabardref13_count.f kj6 (l0_0.take (t134 : Int).toNat) 2).bind fun t158 => (if t158 = 0 then (tabardref13_number.j1 kj6 true) else (if t153 < 1 then (tabardref13_number.j1 kj6 true) else (if t153 > 4 then (tabardref13_number.j1 kj6 true) else ((tabardref13_count.f kj6 (l0_0.drop (t134 : Int).toNat) 3).bind fun t163 => (if t163 > 0 then (tabardref13_number.j1 kj6 true) else (if a0_1 = true then (tabardref13_number.j1 kj6 true) else (tabardref13_number.j1 kj6 (a0_2 != 0)))))))))) = some r := by first | (rw [hy149]; with_reducible exact H) | (have H2_ := (Option.bind_some _ _).symm.trans H; rw [hy149]; with_reducible exact H2_) | (have H2_ := (Option.bind_some _ _).symm.trans H; with_reducible exact H2_) | with_reducible exact H | (rw [hy149]; exact H) | exact H
         have Ny149 := Aside0.mk hy149
         clear hy149
         replace H := Option.bind_eq_some_iff.mp H
         obtain ⟨t153, A300, H⟩ := H
         replace H : ((tabardref13_count.f kj6 (l0_0.take (t134 : Int).toNat) 2).bind fun t158 => (if t158 = 0 then (tabardref13_number.j1 kj6 true) else (if t153 < 1 then (tabardref13_number.j1 kj6 true) else (if t153 > 4 then (tabardref13_number.j1 kj6 true) else ((tabardref13_count.f kj6 (l0_0.drop (t134 : Int).toNat) 3).bind fun t163 => (if t163 > 0 then (tabardref13_number.j1 kj6 true) else (if a0_1 = true then (tabardref13_number.j1 kj6 true) else (tabardref13_number.j1 kj6 (a0_2 != 0))))))))) = some r := H
         have A30 := Aside0.mk A300
         clear A300
         have HC31 := Aside0.mk H
         clear H
         have q32 : (t134 : Int) ≤ ((l0_0.length : Int) : Int) := of_decide_eq_true Z6
         obtain ⟨i032, hi032, _, hsz32, _⟩ := info_parts info98
         have hroom32 : l0_0.length ≤ c0_0 := HC0_0.out
         have hC32 : Kd.C k98 _ A0_0 l0_0.length l0_0 := HR0_0.out
         have q032 : (0 : Int) ≤ (t134 : Int) := of_decide_eq_true Z6
         have hcut32 := cut_from (P := Tryd.prog) 64 98 .i64 Tryd.underlying64 hi032 2 hsz32 A0_0 l0_0.length c0_0 t134 q032 q32
         have hr32 := Kd.C_drop (m := (t134 : Int).toNat) (c := c0_0) hC32 (by omega) hroom32
         obtain ⟨A32, hA32⟩ : ∃ A1, A1 = (if c0_0 = (t134 : Int).toNat then A0_0 else (A0_0 : Option Addr).map (·.add ((t134 : Int).toNat * 2))) := ⟨_, rfl⟩
         obtain ⟨c32, hc32⟩ : ∃ c1, c1 = c0_0 - (t134 : Int).toNat := ⟨_, rfl⟩
         have hy32 : y149.length = l0_0.length - (t134 : Int).toNat := (by rw [Ny149.out, List.length_drop] <;> omega)
         rw [show (l0_0).drop (t134 : Int).toNat = y149 from Ny149.out.symm] at hr32
         replace hr32 : Kd.C k98 _ A32 y149.length y149 := (by rw [hA32]; exact hr32)
         rw [← hy32, ← hA32, ← hc32] at hcut32
         have HR152 := Aside0.mk hr32
         have HC152 := Aside0.mk (show y149.length ≤ c32 from by rw [hy32, hc32]; exact Nat.sub_le_sub_right hroom32 _)
         clear hr32 hC32 hroom32 hi032 hsz32 hc32
         have KY32 := Aside0.mk hy32
         have KA32 := Aside0.mk hA32
         clear hy32 hA32
         replace q32 := eq_true q32
         go_upto_region 9 with (first | ((with_reducible refine gate_callee (f := 57) rfl ?_); refine goesL_ (some 56) rfl rfl Tryd.func57 (by kernel_rfl) rfl #[.slice A32 y149.length c32, .int .i64 2] rfl Z3 ?_; (with_reducible refine (tabardref13_count.calls kj6 _ _ y149 2 t153 _ ?side1 ?side2 A30.out).mono ?_); (case side1 => repeat (first | exact (Kd.C_below HR152.out HB.out) | (with_reducible refine Kd.C_alloc ?_ _) | (with_reducible refine Kd.C_drewN ?_ _) | (with_reducible refine Kd.C_drew ?_))); (case side2 => exact HC152.out); rintro e w' ⟨rfl, ⟨nd, rfl⟩⟩; refine ⟨_, rfl, ?_⟩))
         (try simp only [Act.put, List.setIfInBounds_toArray, List.set_cons_zero, List.set_cons_succ])
         go_cut [85] (fun v85 wc => ∃ (kq : Nat) (x85_30 : Bool), v85 = .bool x85_30 ∧ Aside0 (tabardref13_number.j1 kq x85_30 = some r) ∧ Aside0 (kq ≤ kj6) ∧ Aside0 (wc.heap[gb132]? = some (.cells #[(.slice A0_0 l0_0.length c0_0), .bool a0_1, .int .i64 a0_2] 66 (0, 0))) ∧ Aside0 (Below w.heap.size w wc))
         case first =>
          have H := HC31.out
          clear HC31
          have c33b0 := eq_true (of_decide_eq_true Z6 : 0 ≤ t134)
          have c34b0 := eq_true (of_decide_eq_true Z6 : t134 ≤ (l0_0.length : Int))
          obtain ⟨y154, hy154⟩ : ∃ y_ : List (S98), y_ = (l0_0.take (t134 : Int).toNat) := ⟨_, rfl⟩
          replace H : ((tabardref13_count.f kj6 y154 2).bind fun t158 => (if t158 = 0 then (tabardref13_number.j1 kj6 true) else (if t153 < 1 then (tabardref13_number.j1 kj6 true) else (if t153 > 4 then (tabardref13_number.j1 kj6 true) else ((tabardref13_count.f kj6 (l0_0.drop (t134 : Int).toNat) 3).bind fun t163 => (if t163 > 0 then (tabardref13_number.j1 kj6 true) else (if a0_1 = true then (tabardref13_number.j1 kj6 true) else (tabardref13_number.j1 kj6 (a0_2 != 0))))))))) = some r := by first | (rw [hy154]; with_reducible exact H) | (have H2_ := (Option.bind_some _ _).symm.trans H; rw [hy154]; with_reducible exact H2_) | (have H2_ := (Option.bind_some _ _).symm.trans H; with_reducible exact H2_) | with_reducible exact H | (rw [hy154]; exact H) | exact H
          have Ny154 := Aside0.mk hy154
          clear hy154
          replace H := Option.bind_eq_some_iff.mp H
          obtain ⟨t158, A350, H⟩ := H
          replace H : (if t158 = 0 then (tabardref13_number.j1 kj6 true) else (if t153 < 1 then (tabardref13_number.j1 kj6 true) else (if t153 > 4 then (tabardref13_number.j1 kj6 true) else ((tabardref13_count.f kj6 (l0_0.drop (t134 : Int).toNat) 3).bind fun t163 => (if t163 > 0 then (tabardref13_number.j1 kj6 true) else (if a0_1 = true then (tabardref13_number.j1 kj6 true) else (tabardref13_number.j1 kj6 (a0_2 != 0)))))))) = some r := H
          have A35 := Aside0.mk A350
          clear A350
          by_cases c36 : t158 = 0
          ·rw [if_pos c36] at H
           have c36b0 : (t158 == 0) = true := beq_iff_eq.mpr c36
           have c36b1 : (t158 != 0) = false := bne_eq_false_iff_eq.mpr c36
           clear c36
           (first | rw [c36b0] | (simp only [i64_w, i32_w]; rw [c36b0]) | skip)
           have H' := Aside0.mk H
           clear H
           have q37 : (t134 : Int) ≤ ((l0_0.length : Int) : Int) := of_decide_eq_true Z6
           obtain ⟨i037, hi037, _, hsz37, _⟩ := info_parts info98
           have hroom37 : l0_0.length ≤ c0_0 := HC0_0.out
           have hC37 : Kd.C k98 _ A0_0 l0_0.length l0_0 := HR0_0.out
           have hcut37 := cut_to (P := Tryd.prog) 64 98 .i64 Tryd.underlying64 hi037 A0_0 l0_0.length c0_0 t134 (of_decide_eq_true Z6) q37 hroom37
           have hr37 := Kd.C_take (m := (t134 : Int).toNat) hC37 (by omega)
           have hy37 : y154.length = (t134 : Int).toNat := (by rw [Ny154.out, List.length_take]; omega)
           rw [← Ny154.out] at hr37
           rw [← hy37] at hcut37
           have HR157 := Aside0.mk hr37
           have HC157 := Aside0.mk (show y154.length ≤ c0_0 from by omega)
           clear hr37 hC37 hroom37 hi037 hsz37
           have KY37 := Aside0.mk hy37
           clear hy37
           replace q37 := eq_true q37
           go_wp2_with (first | ((with_reducible refine gate_callee (f := 57) rfl ?_); refine goesL_ (some 60) rfl rfl Tryd.func57 (by kernel_rfl) rfl #[.slice A0_0 y154.length c0_0, .int .i64 2] rfl Z3 ?_; (with_reducible refine (tabardref13_count.calls kj6 _ _ y154 2 t158 _ ?side1 ?side2 A35.out).mono ?_); (case side1 => exact Z35); (case side2 => exact HC157.out); rintro e w' ⟨rfl, ⟨nd, rfl⟩⟩; refine ⟨_, rfl, ?_⟩))
           go_meet
           case rel => exact Z24
          ·rw [if_neg c36] at H
           have c36b0 : (t158 == 0) = false := beq_eq_false_iff_ne.mpr c36
           have c36b1 : (t158 != 0) = true := bne_iff_ne.mpr c36
           (first | rw [c36b0] | (simp only [i64_w, i32_w]; rw [c36b0]) | skip)
           by_cases c38 : t153 < 1
           ·rw [if_pos c38] at H
            have c38b0 : decide (t153 < 1) = true := decide_eq_true c38
            clear c38
            have H' := Aside0.mk H
            clear H
            have q39 : (t134 : Int) ≤ ((l0_0.length : Int) : Int) := of_decide_eq_true Z6
            obtain ⟨i039, hi039, _, hsz39, _⟩ := info_parts info98
            have hroom39 : l0_0.length ≤ c0_0 := HC0_0.out
            have hC39 : Kd.C k98 _ A0_0 l0_0.length l0_0 := HR0_0.out
            have hcut39 := cut_to (P := Tryd.prog) 64 98 .i64 Tryd.underlying64 hi039 A0_0 l0_0.length c0_0 t134 (of_decide_eq_true Z6) q39 hroom39
            have hr39 := Kd.C_take (m := (t134 : Int).toNat) hC39 (by omega)
            have hy39 : y154.length = (t134 : Int).toNat := (by rw [Ny154.out, List.length_take]; omega)
            rw [← Ny154.out] at hr39
            rw [← hy39] at hcut39
            have HR157 := Aside0.mk hr39
            have HC157 := Aside0.mk (show y154.length ≤ c0_0 from by omega)
            clear hr39 hC39 hroom39 hi039 hsz39
            have KY39 := Aside0.mk hy39
            clear hy39
            replace q39 := eq_true q39
            go_wp2_with (first | ((with_reducible refine gate_callee (f := 57) rfl ?_); refine goesL_ (some 60) rfl rfl Tryd.func57 (by kernel_rfl) rfl #[.slice A0_0 y154.length c0_0, .int .i64 2] rfl Z3 ?_; (with_reducible refine (tabardref13_count.calls kj6 _ _ y154 2 t158 _ ?side1 ?side2 A35.out).mono ?_); (case side1 => exact Z35); (case side2 => exact HC157.out); rintro e w' ⟨rfl, ⟨nd, rfl⟩⟩; refine ⟨_, rfl, ?_⟩))
            go_meet
            case rel => exact Z24
           ·rw [if_neg c38] at H
            have c38b0 : decide (t153 < 1) = false := decide_eq_false c38
            clear c38
            by_cases c40 : t153 > 4
            ·rw [if_pos c40] at H
             have c40b0 : decide (4 < t153) = true := decide_eq_true c40
             clear c40
             have H' := Aside0.mk H
             clear H
             have q41 : (t134 : Int) ≤ ((l0_0.length : Int) : Int) := of_decide_eq_true Z6
             obtain ⟨i041, hi041, _, hsz41, _⟩ := info_parts info98
             have hroom41 : l0_0.length ≤ c0_0 := HC0_0.out
             have hC41 : Kd.C k98 _ A0_0 l0_0.length l0_0 := HR0_0.out
             have hcut41 := cut_to (P := Tryd.prog) 64 98 .i64 Tryd.underlying64 hi041 A0_0 l0_0.length c0_0 t134 (of_decide_eq_true Z6) q41 hroom41
             have hr41 := Kd.C_take (m := (t134 : Int).toNat) hC41 (by omega)
             have hy41 : y154.length = (t134 : Int).toNat := (by rw [Ny154.out, List.length_take]; omega)
             rw [← Ny154.out] at hr41
             rw [← hy41] at hcut41
             have HR157 := Aside0.mk hr41
             have HC157 := Aside0.mk (show y154.length ≤ c0_0 from by omega)
             clear hr41 hC41 hroom41 hi041 hsz41
             have KY41 := Aside0.mk hy41
             clear hy41
             replace q41 := eq_true q41
             go_wp2_with (first | ((with_reducible refine gate_callee (f := 57) rfl ?_); refine goesL_ (some 60) rfl rfl Tryd.func57 (by kernel_rfl) rfl #[.slice A0_0 y154.length c0_0, .int .i64 2] rfl Z3 ?_; (with_reducible refine (tabardref13_count.calls kj6 _ _ y154 2 t158 _ ?side1 ?side2 A35.out).mono ?_); (case side1 => exact Z35); (case side2 => exact HC157.out); rintro e w' ⟨rfl, ⟨nd, rfl⟩⟩; refine ⟨_, rfl, ?_⟩))
             go_meet
             case rel => exact Z24
            ·rw [if_neg c40] at H
             have c40b0 : decide (4 < t153) = false := decide_eq_false c40
             clear c40
             have c42b0 := eq_true (of_decide_eq_true Z6 : 0 ≤ t134)
             have c43b0 := eq_true (of_decide_eq_true Z6 : t134 ≤ (l0_0.length : Int))
             obtain ⟨y159, hy159⟩ : ∃ y_ : List (S98), y_ = (l0_0.drop (t134 : Int).toNat) := ⟨_, rfl⟩
             replace H : ((tabardref13_count.f kj6 y159 3).bind fun t163 => (if t163 > 0 then (tabardref13_number.j1 kj6 true) else (if a0_1 = true then (tabardref13_number.j1 kj6 true) else (tabardref13_number.j1 kj6 (a0_2 != 0))))) = some r := by first | (rw [hy159]; with_reducible exact H) | (have H2_ := (Option.bind_some _ _).symm.trans H; rw [hy159]; with_reducible exact H2_) | (have H2_ := (Option.bind_some _ _).symm.trans H; with_reducible exact H2_) | with_reducible exact H | (rw [hy159]; exact H) | exact H
             have Ny159 := Aside0.mk hy159
             clear hy159
             replace H := Option.bind_eq_some_iff.mp H
             obtain ⟨t163, A440, H⟩ := H
             replace H : (if t163 > 0 then (tabardref13_number.j1 kj6 true) else (if a0_1 = true then (tabardref13_number.j1 kj6 true) else (tabardref13_number.j1 kj6 (a0_2 != 0)))) = some r := H
             have A44 := Aside0.mk A440
             clear A440
             by_cases c45 : t163 > 0
             ·rw [if_pos c45] at H
              have c45b0 : decide (0 < t163) = true := decide_eq_true c45
              clear c45
              have H' := Aside0.mk H
              clear H
              have q46 : (t134 : Int) ≤ ((l0_0.length : Int) : Int) := of_decide_eq_true Z6
              obtain ⟨i046, hi046, _, hsz46, _⟩ := info_parts info98
              have hroom46 : l0_0.length ≤ c0_0 := HC0_0.out
              have hC46 : Kd.C k98 _ A0_0 l0_0.length l0_0 := HR0_0.out
              have hcut46 := cut_to (P := Tryd.prog) 64 98 .i64 Tryd.underlying64 hi046 A0_0 l0_0.length c0_0 t134 (of_decide_eq_true Z6) q46 hroom46
              have hr46 := Kd.C_take (m := (t134 : Int).toNat) hC46 (by omega)
              have hy46 : y154.length = (t134 : Int).toNat := (by rw [Ny154.out, List.length_take]; omega)
              rw [← Ny154.out] at hr46
              rw [← hy46] at hcut46
              have HR157 := Aside0.mk hr46
              have HC157 := Aside0.mk (show y154.length ≤ c0_0 from by omega)
              clear hr46 hC46 hroom46 hi046 hsz46
              have KY46 := Aside0.mk hy46
              clear hy46
              replace q46 := eq_true q46
              go_wp2_with (first | ((with_reducible refine gate_callee (f := 57) rfl ?_); refine goesL_ (some 60) rfl rfl Tryd.func57 (by kernel_rfl) rfl #[.slice A0_0 y154.length c0_0, .int .i64 2] rfl Z3 ?_; (with_reducible refine (tabardref13_count.calls kj6 _ _ y154 2 t158 _ ?side1 ?side2 A35.out).mono ?_); (case side1 => exact Z35); (case side2 => exact HC157.out); rintro e w' ⟨rfl, ⟨nd, rfl⟩⟩; refine ⟨_, rfl, ?_⟩; have q47 : (t134 : Int) ≤ ((l0_0.length : Int) : Int) := of_decide_eq_true Z6; (try clear hcut32); obtain ⟨i047, hi047, _, hsz47, _⟩ := info_parts info98; have hroom47 : l0_0.length ≤ c0_0 := HC0_0.out; have hC47 : Kd.C k98 _ A0_0 l0_0.length l0_0 := HR0_0.out; have q047 : (0 : Int) ≤ (t134 : Int) := of_decide_eq_true Z6; have hcut47 := cut_from (P := Tryd.prog) 64 98 .i64 Tryd.underlying64 hi047 2 hsz47 A0_0 l0_0.length c0_0 t134 q047 q47; have hr47 := Kd.C_drop (m := (t134 : Int).toNat) (c := c0_0) hC47 (by omega) hroom47; obtain ⟨A47, hA47⟩ : ∃ A1, A1 = (if c0_0 = (t134 : Int).toNat then A0_0 else (A0_0 : Option Addr).map (·.add ((t134 : Int).toNat * 2))) := ⟨_, rfl⟩; obtain ⟨c47, hc47⟩ : ∃ c1, c1 = c0_0 - (t134 : Int).toNat := ⟨_, rfl⟩; have hy47 : y159.length = l0_0.length - (t134 : Int).toNat := (by rw [Ny159.out, List.length_drop] <;> omega); rw [show (l0_0).drop (t134 : Int).toNat = y159 from Ny159.out.symm] at hr47; replace hr47 : Kd.C k98 _ A47 y159.length y159 := (by rw [hA47]; exact hr47); rw [← hy47, ← hA47, ← hc47] at hcut47; have HR162 := Aside0.mk hr47; have HC162 := Aside0.mk (show y159.length ≤ c47 from by rw [hy47, hc47]; exact Nat.sub_le_sub_right hroom47 _); clear hr47 hC47 hroom47 hi047 hsz47 hc47; have KY47 := Aside0.mk hy47; have KA47 := Aside0.mk hA47; clear hy47 hA47; replace q47 := eq_true q47) | (go_at_call 57; (with_reducible refine (tabardref13_count.calls kj6 _ _ y159 3 t163 _ ?side1 ?side2 A44.out).mono ?_); (case side1 => exact Z50); (case side2 => exact HC162.out); rintro e w' ⟨rfl, ⟨nd, rfl⟩⟩))
              go_meet
              case rel => exact Z24
             ·rw [if_neg c45] at H
              have c45b0 : decide (0 < t163) = false := decide_eq_false c45
              clear c45
              by_cases c48 : a0_1 = true
              ·subst c48
               have H1 : (tabardref13_number.j1 kj6 true) = some r := by rw [if_pos rfl] at H; exact H
               clear H
               have H := H1
               clear H1
               have H' := Aside0.mk H
               clear H
               have q49 : (t134 : Int) ≤ ((l0_0.length : Int) : Int) := of_decide_eq_true Z6
               obtain ⟨i049, hi049, _, hsz49, _⟩ := info_parts info98
               have hroom49 : l0_0.length ≤ c0_0 := HC0_0.out
               have hC49 : Kd.C k98 _ A0_0 l0_0.length l0_0 := HR0_0.out
               have hcut49 := cut_to (P := Tryd.prog) 64 98 .i64 Tryd.underlying64 hi049 A0_0 l0_0.length c0_0 t134 (of_decide_eq_true Z6) q49 hroom49
               have hr49 := Kd.C_take (m := (t134 : Int).toNat) hC49 (by omega)
               have hy49 : y154.length = (t134 : Int).toNat := (by rw [Ny154.out, List.length_take]; omega)
               rw [← Ny154.out] at hr49
               rw [← hy49] at hcut49
               have HR157 := Aside0.mk hr49
               have HC157 := Aside0.mk (show y154.length ≤ c0_0 from by omega)
               clear hr49 hC49 hroom49 hi049 hsz49
               have KY49 := Aside0.mk hy49
               clear hy49
               replace q49 := eq_true q49
               go_wp2_with (first | ((with_reducible refine gate_callee (f := 57) rfl ?_); refine goesL_ (some 60) rfl rfl Tryd.func57 (by kernel_rfl) rfl #[.slice A0_0 y154.length c0_0, .int .i64 2] rfl Z3 ?_; (with_reducible refine (tabardref13_count.calls kj6 _ _ y154 2 t158 _ ?side1 ?side2 A35.out).mono ?_); (case side1 => exact Z35); (case side2 => exact HC157.out); rintro e w' ⟨rfl, ⟨nd, rfl⟩⟩; refine ⟨_, rfl, ?_⟩; have q50 : (t134 : Int) ≤ ((l0_0.length : Int) : Int) := of_decide_eq_true Z6; (try clear hcut32); obtain ⟨i050, hi050, _, hsz50, _⟩ := info_parts info98; have hroom50 : l0_0.length ≤ c0_0 := HC0_0.out; have hC50 : Kd.C k98 _ A0_0 l0_0.length l0_0 := HR0_0.out; have q050 : (0 : Int) ≤ (t134 : Int) := of_decide_eq_true Z6; have hcut50 := cut_from (P := Tryd.prog) 64 98 .i64 Tryd.underlying64 hi050 2 hsz50 A0_0 l0_0.length c0_0 t134 q050 q50; have hr50 := Kd.C_drop (m := (t134 : Int).toNat) (c := c0_0) hC50 (by omega) hroom50; obtain ⟨A50, hA50⟩ : ∃ A1, A1 = (if c0_0 = (t134 : Int).toNat then A0_0 else (A0_0 : Option Addr).map (·.add ((t134 : Int).toNat * 2))) := ⟨_, rfl⟩; obtain ⟨c50, hc50⟩ : ∃ c1, c1 = c0_0 - (t134 : Int).toNat := ⟨_, rfl⟩; have hy50 : y159.length = l0_0.length - (t134 : Int).toNat := (by rw [Ny159.out, List.length_drop] <;> omega); rw [show (l0_0).drop (t134 : Int).toNat = y159 from Ny159.out.symm] at hr50; replace hr50 : Kd.C k98 _ A50 y159.length y159 := (by rw [hA50]; exact hr50); rw [← hy50, ← hA50, ← hc50] at hcut50; have HR162 := Aside0.mk hr50; have HC162 := Aside0.mk (show y159.length ≤ c50 from by rw [hy50, hc50]; exact Nat.sub_le_sub_right hroom50 _); clear hr50 hC50 hroom50 hi050 hsz50 hc50; have KY50 := Aside0.mk hy50; have KA50 := Aside0.mk hA50; clear hy50 hA50; replace q50 := eq_true q50) | (go_at_call 57; (with_reducible refine (tabardref13_count.calls kj6 _ _ y159 3 t163 _ ?side1 ?side2 A44.out).mono ?_); (case side1 => exact Z50); (case side2 => exact HC162.out); rintro e w' ⟨rfl, ⟨nd, rfl⟩⟩; have hcz51_0 : wc.cell? ⟨gb132, 0, none⟩ = some (.slice A0_0 l0_0.length c0_0) := (blk_cell BK132.out 0).trans rfl; have hcz51_1 : wc.cell? ⟨gb132, 1, none⟩ = some (.bool true) := (blk_cell BK132.out 1).trans rfl; have hcz51_2 : wc.cell? ⟨gb132, 2, none⟩ = some (.int .i64 a0_2) := (blk_cell BK132.out 2).trans rfl; have hfz51_0 := blk_frozen BK132.out 0; have hfz51_1 := blk_frozen BK132.out 1; have hfz51_2 := blk_frozen BK132.out 2))
               go_meet
               case rel => exact Z24
              ·replace c48 := Bool.eq_false_iff.mpr c48
               subst c48
               have H1 : (tabardref13_number.j1 kj6 (a0_2 != 0)) = some r := by rw [if_neg (show ¬ (false = true) by decide)] at H; exact H
               clear H
               have H := H1
               clear H1
               have H' := Aside0.mk H
               clear H
               have q52 : (t134 : Int) ≤ ((l0_0.length : Int) : Int) := of_decide_eq_true Z6
               obtain ⟨i052, hi052, _, hsz52, _⟩ := info_parts info98
               have hroom52 : l0_0.length ≤ c0_0 := HC0_0.out
               have hC52 : Kd.C k98 _ A0_0 l0_0.length l0_0 := HR0_0.out
               have hcut52 := cut_to (P := Tryd.prog) 64 98 .i64 Tryd.underlying64 hi052 A0_0 l0_0.length c0_0 t134 (of_decide_eq_true Z6) q52 hroom52
               have hr52 := Kd.C_take (m := (t134 : Int).toNat) hC52 (by omega)
               have hy52 : y154.length = (t134 : Int).toNat := (by rw [Ny154.out, List.length_take]; omega)
               rw [← Ny154.out] at hr52
               rw [← hy52] at hcut52
               have HR157 := Aside0.mk hr52
               have HC157 := Aside0.mk (show y154.length ≤ c0_0 from by omega)
               clear hr52 hC52 hroom52 hi052 hsz52
               have KY52 := Aside0.mk hy52
               clear hy52
               replace q52 := eq_true q52
               go_wp2_with (first | ((with_reducible refine gate_callee (f := 57) rfl ?_); refine goesL_ (some 60) rfl rfl Tryd.func57 (by kernel_rfl) rfl #[.slice A0_0 y154.length c0_0, .int .i64 2] rfl Z3 ?_; (with_reducible refine (tabardref13_count.calls kj6 _ _ y154 2 t158 _ ?side1 ?side2 A35.out).mono ?_); (case side1 => exact Z35); (case side2 => exact HC157.out); rintro e w' ⟨rfl, ⟨nd, rfl⟩⟩; refine ⟨_, rfl, ?_⟩; have q53 : (t134 : Int) ≤ ((l0_0.length : Int) : Int) := of_decide_eq_true Z6; (try clear hcut32); obtain ⟨i053, hi053, _, hsz53, _⟩ := info_parts info98; have hroom53 : l0_0.length ≤ c0_0 := HC0_0.out; have hC53 : Kd.C k98 _ A0_0 l0_0.length l0_0 := HR0_0.out; have q053 : (0 : Int) ≤ (t134 : Int) := of_decide_eq_true Z6; have hcut53 := cut_from (P := Tryd.prog) 64 98 .i64 Tryd.underlying64 hi053 2 hsz53 A0_0 l0_0.length c0_0 t134 q053 q53; have hr53 := Kd.C_drop (m := (t134 : Int).toNat) (c := c0_0) hC53 (by omega) hroom53; obtain ⟨A53, hA53⟩ : ∃ A1, A1 = (if c0_0 = (t134 : Int).toNat then A0_0 else (A0_0 : Option Addr).map (·.add ((t134 : Int).toNat * 2))) := ⟨_, rfl⟩; obtain ⟨c53, hc53⟩ : ∃ c1, c1 = c0_0 - (t134 : Int).toNat := ⟨_, rfl⟩; have hy53 : y159.length = l0_0.length - (t134 : Int).toNat := (by rw [Ny159.out, List.length_drop] <;> omega); rw [show (l0_0).drop (t134 : Int).toNat = y159 from Ny159.out.symm] at hr53; replace hr53 : Kd.C k98 _ A53 y159.length y159 := (by rw [hA53]; exact hr53); rw [← hy53, ← hA53, ← hc53] at hcut53; have HR162 := Aside0.mk hr53; have HC162 := Aside0.mk (show y159.length ≤ c53 from by rw [hy53, hc53]; exact Nat.sub_le_sub_right hroom53 _); clear hr53 hC53 hroom53 hi053 hsz53 hc53; have KY53 := Aside0.mk hy53; have KA53 := Aside0.mk hA53; clear hy53 hA53; replace q53 := eq_true q53) | (go_at_call 57; (with_reducible refine (tabardref13_count.calls kj6 _ _ y159 3 t163 _ ?side1 ?side2 A44.out).mono ?_); (case side1 => exact Z50); (case side2 => exact HC162.out); rintro e w' ⟨rfl, ⟨nd, rfl⟩⟩; have hcz54_0 : wc.cell? ⟨gb132, 0, none⟩ = some (.slice A0_0 l0_0.length c0_0) := (blk_cell BK132.out 0).trans rfl; have hcz54_1 : wc.cell? ⟨gb132, 1, none⟩ = some (.bool false) := (blk_cell BK132.out 1).trans rfl; have hcz54_2 : wc.cell? ⟨gb132, 2, none⟩ = some (.int .i64 a0_2) := (blk_cell BK132.out 2).trans rfl; have hfz54_0 := blk_frozen BK132.out 0; have hfz54_1 := blk_frozen BK132.out 1; have hfz54_2 := blk_frozen BK132.out 2))
               go_meet
               case rel => exact ⟨_, ((a0_2 != 0)), Z5, H', ⟨by have := HJ6.out; first | omega | exact Nat.le_refl _⟩, ⟨by (with_reducible repeat (first | refine blk_drewN ?_ _ | refine blk_drew ?_ | refine blk_alloc ?_ _)); exact BK132.out⟩, ⟨by repeat (first | (with_reducible first | exact HB.out | apply below_alloc | apply pw_below_drewN | apply below_drew1 | refine below_set ?_ GE132.out) | exact HB.out)⟩⟩
         case rest =>
          clear HC31
          try clear c1
          try clear q1
          try clear c2
          try clear p2
          try clear q2
          try clear c3
          try clear q3
          try clear c4
          try clear c4b0
          try clear c4b1
          try clear q4
          try clear c5
          try clear c5b0
          try clear c5b1
          try clear q5
          try clear c6
          try clear c8
          try clear q11
          try clear c13
          try clear c13b0
          try clear c13b1
          try clear c15
          try clear c15b0
          try clear c17
          try clear c17b0
          try clear c19
          try clear c19b0
          try clear c20
          try clear c20b0
          try clear c21
          try clear c21b0
          try clear c22
          try clear c22b0
          try clear c22b1
          try clear c23
          try clear c23b0
          try clear c23b1
          try clear c25
          try clear q25
          try clear c26
          try clear c27
          try clear c27b0
          try clear c28
          try clear c28b0
          try clear c28b1
          try clear c29
          try clear c29b0
          try clear c29b1
          try clear c32
          try clear q32
          try clear c33
          try clear c33b0
          try clear c34
          try clear c34b0
          try clear c36
          try clear c36b0
          try clear c36b1
          try clear q37
          try clear c38
          try clear c38b0
          try clear q39
          try clear c40
          try clear c40b0
          try clear q41
          try clear c42
          try clear c42b0
          try clear c43
          try clear c43b0
          try clear c45
          try clear c45b0
          try clear q46
          try clear c47
          try clear q47
          try clear c48
          try clear q49
          try clear c50
          try clear q50
          try clear q52
          try clear c53
          try clear q53
          try clear hcz51_0
          try clear hcz51_1
          try clear hcz51_2
          try clear hcz54_0
          try clear hcz54_1
          try clear hcz54_2
          try clear hcz9_0
          try clear hcz9_1
          try clear hcz9_2
          try clear hfz51_0
          try clear hfz51_1
          try clear hfz51_2
          try clear hfz54_0
          try clear hfz54_1
          try clear hfz54_2
          try clear hfz9_0
          try clear hfz9_1
          try clear hfz9_2
          try clear p2
          try clear q025
          try clear q032
          try clear q047
          try clear q050
          try clear q053
          try clear q1
          try clear q11
          try clear q2
          try clear q25
          try clear q32
          try clear q37
          try clear q39
          try clear q41
          try clear q46
          try clear q47
          try clear q49
          try clear q50
          try clear q52
          try clear q53
          obtain ⟨kq, x85_30, rfl, HA, HJ30, BK132, HB⟩ := hcut
          cases kq with
          | zero => exact absurd HA.out (by simp [tabardref13_number.j1])
          | succ kj30 =>
           have H := HA.out
           clear HA
           simp only [tabardref13_number.j1] at H
           by_cases c55 : x85_30 = true
           ·subst c55
            have H1 : (some 0) = some r := by rw [if_pos rfl] at H; exact H
            clear H
            have H := H1
            clear H1
            obtain rfl := Option.some.inj H
            go_wp2
            go_ret
            exact Z10
           ·replace c55 := Bool.eq_false_iff.mpr c55
            subst c55
            have H1 : (some 3) = some r := by rw [if_neg (show ¬ (false = true) by decide)] at H; exact H
            clear H
            have H := H1
            clear H1
            obtain rfl := Option.some.inj H
            go_wp2
            go_ret
            exact Z10
        ·rw [if_neg c29] at H
         exact Z33
       ·rw [if_neg c28] at H
        exact Z33
      ·rw [if_neg c27] at H
       have c27b0 : decide (t134 < (l0_0.length : Int)) = false := decide_eq_false c27
       clear c27
       replace H := Option.bind_eq_some_iff.mp H
       obtain ⟨t164, A560, H⟩ := H
       replace H : (if a0_1 = true then (if t164 = true then (if a0_2 < 0 then (some 0) else (if a0_2 > 9 then (some 0) else (if a0_2 > 0 then (if t139 = 0 then (some 0) else (some 2)) else (some 2)))) else (some 0)) else (if a0_2 < 0 then (some 0) else (if a0_2 > 9 then (some 0) else (if a0_2 > 0 then (if t139 = 0 then (some 0) else (some 2)) else (some 2))))) = some r := H
       have A56 := Aside0.mk A560
       clear A560
       by_cases c57 : a0_1 = true
       ·subst c57
        have H1 : (if t164 = true then (if a0_2 < 0 then (some 0) else (if a0_2 > 9 then (some 0) else (if a0_2 > 0 then (if t139 = 0 then (some 0) else (some 2)) else (some 2)))) else (some 0)) = some r := by rw [if_pos rfl] at H; exact H
        clear H
        have H := H1
        clear H1
        by_cases c58 : t164 = true
        ·subst c58
         have H1 : (if a0_2 < 0 then (some 0) else (if a0_2 > 9 then (some 0) else (if a0_2 > 0 then (if t139 = 0 then (some 0) else (some 2)) else (some 2)))) = some r := by rw [if_pos rfl] at H; exact H
         clear H
         have H := H1
         clear H1
         by_cases c59 : a0_2 < 0
         ·rw [if_pos c59] at H
          have c59b0 : decide (a0_2 < 0) = true := decide_eq_true c59
          clear c59
          obtain rfl := Option.some.inj H
          go_wp2_with (first | ((with_reducible refine gate_callee (f := 85) rfl ?_); refine goesL_ (some 87) rfl rfl Tryd.func85 (by kernel_rfl) rfl #[.slice A0_0 l0_0.length c0_0] rfl Z3 ?_; (with_reducible refine (tabardref13_beside.calls kj6 _ _ l0_0 true _ ?side1 ?side2 A56.out).mono ?_); (case side1 => exact Z7); (case side2 => exact Z39); rintro e w60 ⟨rfl, hb⟩; refine ⟨_, rfl, ?_⟩; have n0_ := Aside0.mk (blk_below (g := gb132) (o := .cells #[.slice A0_0 l0_0.length c0_0, .bool true, .int .i64 a0_2] 66 (0, 0)) Z27 hb); have n1_ := Aside0.mk (below_step Z9 hb); clear BK132; clear HB; have BK132 := n0_; have HB := n1_; clear n0_ n1_; (try clear hb); (try clear hb2); (try clear hk); (try clear hi); have hcz61_0 : w60.cell? ⟨gb132, 0, none⟩ = some (.slice A0_0 l0_0.length c0_0) := (blk_cell BK132.out 0).trans rfl; have hcz61_1 : w60.cell? ⟨gb132, 1, none⟩ = some (.bool true) := (blk_cell BK132.out 1).trans rfl; have hcz61_2 : w60.cell? ⟨gb132, 2, none⟩ = some (.int .i64 a0_2) := (blk_cell BK132.out 2).trans rfl; have hfz61_0 := blk_frozen BK132.out 0; have hfz61_1 := blk_frozen BK132.out 1; have hfz61_2 := blk_frozen BK132.out 2))
          go_ret
          exact Z10
         ·rw [if_neg c59] at H
          have c59b0 : decide (a0_2 < 0) = false := decide_eq_false c59
          clear c59
          by_cases c62 : a0_2 > 9
          ·rw [if_pos c62] at H
           have c62b0 : decide (9 < a0_2) = true := decide_eq_true c62
           clear c62
           obtain rfl := Option.some.inj H
           go_wp2_with (first | ((with_reducible refine gate_callee (f := 85) rfl ?_); refine goesL_ (some 87) rfl rfl Tryd.func85 (by kernel_rfl) rfl #[.slice A0_0 l0_0.length c0_0] rfl Z3 ?_; (with_reducible refine (tabardref13_beside.calls kj6 _ _ l0_0 true _ ?side1 ?side2 A56.out).mono ?_); (case side1 => exact Z7); (case side2 => exact Z39); rintro e w63 ⟨rfl, hb⟩; refine ⟨_, rfl, ?_⟩; have n0_ := Aside0.mk (blk_below (g := gb132) (o := .cells #[.slice A0_0 l0_0.length c0_0, .bool true, .int .i64 a0_2] 66 (0, 0)) Z27 hb); have n1_ := Aside0.mk (below_step Z9 hb); clear BK132; clear HB; have BK132 := n0_; have HB := n1_; clear n0_ n1_; (try clear hb); (try clear hb2); (try clear hk); (try clear hi); have hcz64_0 : w63.cell? ⟨gb132, 0, none⟩ = some (.slice A0_0 l0_0.length c0_0) := (blk_cell BK132.out 0).trans rfl; have hcz64_1 : w63.cell? ⟨gb132, 1, none⟩ = some (.bool true) := (blk_cell BK132.out 1).trans rfl; have hcz64_2 : w63.cell? ⟨gb132, 2, none⟩ = some (.int .i64 a0_2) := (blk_cell BK132.out 2).trans rfl; have hfz64_0 := blk_frozen BK132.out 0; have hfz64_1 := blk_frozen BK132.out 1; have hfz64_2 := blk_frozen BK132.out 2))
           go_ret
           exact Z10
          ·rw [if_neg c62] at H
           have c62b0 : decide (9 < a0_2) = false := decide_eq_false c62
           clear c62
           by_cases c65 : a0_2 > 0
           ·rw [if_pos c65] at H
            have c65b0 : decide (0 < a0_2) = true := decide_eq_true c65
            clear c65
            by_cases c66 : t139 = 0
            ·rw [if_pos c66] at H
             have c66b0 : (t139 == 0) = true := beq_iff_eq.mpr c66
             have c66b1 : (t139 != 0) = false := bne_eq_false_iff_eq.mpr c66
             clear c66
             obtain rfl := Option.some.inj H
             go_wp2_with (first | ((with_reducible refine gate_callee (f := 85) rfl ?_); refine goesL_ (some 87) rfl rfl Tryd.func85 (by kernel_rfl) rfl #[.slice A0_0 l0_0.length c0_0] rfl Z3 ?_; (with_reducible refine (tabardref13_beside.calls kj6 _ _ l0_0 true _ ?side1 ?side2 A56.out).mono ?_); (case side1 => exact Z7); (case side2 => exact Z39); rintro e w67 ⟨rfl, hb⟩; refine ⟨_, rfl, ?_⟩; have n0_ := Aside0.mk (blk_below (g := gb132) (o := .cells #[.slice A0_0 l0_0.length c0_0, .bool true, .int .i64 a0_2] 66 (0, 0)) Z27 hb); have n1_ := Aside0.mk (below_step Z9 hb); clear BK132; clear HB; have BK132 := n0_; have HB := n1_; clear n0_ n1_; (try clear hb); (try clear hb2); (try clear hk); (try clear hi); have hcz68_0 : w67.cell? ⟨gb132, 0, none⟩ = some (.slice A0_0 l0_0.length c0_0) := (blk_cell BK132.out 0).trans rfl; have hcz68_1 : w67.cell? ⟨gb132, 1, none⟩ = some (.bool true) := (blk_cell BK132.out 1).trans rfl; have hcz68_2 : w67.cell? ⟨gb132, 2, none⟩ = some (.int .i64 a0_2) := (blk_cell BK132.out 2).trans rfl; have hfz68_0 := blk_frozen BK132.out 0; have hfz68_1 := blk_frozen BK132.out 1; have hfz68_2 := blk_frozen BK132.out 2))
             go_ret
             exact Z10
            ·rw [if_neg c66] at H
             have c66b0 : (t139 == 0) = false := beq_eq_false_iff_ne.mpr c66
             have c66b1 : (t139 != 0) = true := bne_iff_ne.mpr c66
             obtain rfl := Option.some.inj H
             go_wp2_with (first | ((with_reducible refine gate_callee (f := 85) rfl ?_); refine goesL_ (some 87) rfl rfl Tryd.func85 (by kernel_rfl) rfl #[.slice A0_0 l0_0.length c0_0] rfl Z3 ?_; (with_reducible refine (tabardref13_beside.calls kj6 _ _ l0_0 true _ ?side1 ?side2 A56.out).mono ?_); (case side1 => exact Z7); (case side2 => exact Z39); rintro e w69 ⟨rfl, hb⟩; refine ⟨_, rfl, ?_⟩; have n0_ := Aside0.mk (blk_below (g := gb132) (o := .cells #[.slice A0_0 l0_0.length c0_0, .bool true, .int .i64 a0_2] 66 (0, 0)) Z27 hb); have n1_ := Aside0.mk (below_step Z9 hb); clear BK132; clear HB; have BK132 := n0_; have HB := n1_; clear n0_ n1_; (try clear hb); (try clear hb2); (try clear hk); (try clear hi); have hcz70_0 : w69.cell? ⟨gb132, 0, none⟩ = some (.slice A0_0 l0_0.length c0_0) := (blk_cell BK132.out 0).trans rfl; have hcz70_1 : w69.cell? ⟨gb132, 1, none⟩ = some (.bool true) := (blk_cell BK132.out 1).trans rfl; have hcz70_2 : w69.cell? ⟨gb132, 2, none⟩ = some (.int .i64 a0_2) := (blk_cell BK132.out 2).trans rfl; have hfz70_0 := blk_frozen BK132.out 0; have hfz70_1 := blk_frozen BK132.out 1; have hfz70_2 := blk_frozen BK132.out 2))
             go_ret
             exact Z10
           ·rw [if_neg c65] at H
            have c65b0 : decide (0 < a0_2) = false := decide_eq_false c65
            clear c65
            obtain rfl := Option.some.inj H
            go_wp2_with (first | ((with_reducible refine gate_callee (f := 85) rfl ?_); refine goesL_ (some 87) rfl rfl Tryd.func85 (by kernel_rfl) rfl #[.slice A0_0 l0_0.length c0_0] rfl Z3 ?_; (with_reducible refine (tabardref13_beside.calls kj6 _ _ l0_0 true _ ?side1 ?side2 A56.out).mono ?_); (case side1 => exact Z7); (case side2 => exact Z39); rintro e w71 ⟨rfl, hb⟩; refine ⟨_, rfl, ?_⟩; have n0_ := Aside0.mk (blk_below (g := gb132) (o := .cells #[.slice A0_0 l0_0.length c0_0, .bool true, .int .i64 a0_2] 66 (0, 0)) Z27 hb); have n1_ := Aside0.mk (below_step Z9 hb); clear BK132; clear HB; have BK132 := n0_; have HB := n1_; clear n0_ n1_; (try clear hb); (try clear hb2); (try clear hk); (try clear hi); have hcz72_0 : w71.cell? ⟨gb132, 0, none⟩ = some (.slice A0_0 l0_0.length c0_0) := (blk_cell BK132.out 0).trans rfl; have hcz72_1 : w71.cell? ⟨gb132, 1, none⟩ = some (.bool true) := (blk_cell BK132.out 1).trans rfl; have hcz72_2 : w71.cell? ⟨gb132, 2, none⟩ = some (.int .i64 a0_2) := (blk_cell BK132.out 2).trans rfl; have hfz72_0 := blk_frozen BK132.out 0; have hfz72_1 := blk_frozen BK132.out 1; have hfz72_2 := blk_frozen BK132.out 2))
            go_ret
            exact Z10
        ·replace c58 := Bool.eq_false_iff.mpr c58
         subst c58
         have H1 : (some 0) = some r := by rw [if_neg (show ¬ (false = true) by decide)] at H; exact H
         clear H
         have H := H1
         clear H1
         obtain rfl := Option.some.inj H
         go_wp2_with (first | ((with_reducible refine gate_callee (f := 85) rfl ?_); refine goesL_ (some 87) rfl rfl Tryd.func85 (by kernel_rfl) rfl #[.slice A0_0 l0_0.length c0_0] rfl Z3 ?_; (with_reducible refine (tabardref13_beside.calls kj6 _ _ l0_0 false _ ?side1 ?side2 A56.out).mono ?_); (case side1 => exact Z7); (case side2 => exact Z39); rintro e w73 ⟨rfl, hb⟩; refine ⟨_, rfl, ?_⟩; have n0_ := Aside0.mk (blk_below (g := gb132) (o := .cells #[.slice A0_0 l0_0.length c0_0, .bool true, .int .i64 a0_2] 66 (0, 0)) Z27 hb); have n1_ := Aside0.mk (below_step Z9 hb); clear BK132; clear HB; have BK132 := n0_; have HB := n1_; clear n0_ n1_; (try clear hb); (try clear hb2); (try clear hk); (try clear hi); have hcz74_0 : w73.cell? ⟨gb132, 0, none⟩ = some (.slice A0_0 l0_0.length c0_0) := (blk_cell BK132.out 0).trans rfl; have hcz74_1 : w73.cell? ⟨gb132, 1, none⟩ = some (.bool true) := (blk_cell BK132.out 1).trans rfl; have hcz74_2 : w73.cell? ⟨gb132, 2, none⟩ = some (.int .i64 a0_2) := (blk_cell BK132.out 2).trans rfl; have hfz74_0 := blk_frozen BK132.out 0; have hfz74_1 := blk_frozen BK132.out 1; have hfz74_2 := blk_frozen BK132.out 2))
         go_ret
         exact Z10
       ·replace c57 := Bool.eq_false_iff.mpr c57
        subst c57
        have H1 : (if a0_2 < 0 then (some 0) else (if a0_2 > 9 then (some 0) else (if a0_2 > 0 then (if t139 = 0 then (some 0) else (some 2)) else (some 2)))) = some r := by rw [if_neg (show ¬ (false = true) by decide)] at H; exact H
        clear H
        have H := H1
        clear H1
        by_cases c75 : a0_2 < 0
        ·rw [if_pos c75] at H
         have c75b0 : decide (a0_2 < 0) = true := decide_eq_true c75
         clear c75
         obtain rfl := Option.some.inj H
         go_wp2_with (first | ((with_reducible refine gate_callee (f := 85) rfl ?_); refine goesL_ (some 87) rfl rfl Tryd.func85 (by kernel_rfl) rfl #[.slice A0_0 l0_0.length c0_0] rfl Z3 ?_; (with_reducible refine (tabardref13_beside.calls kj6 _ _ l0_0 t164 _ ?side1 ?side2 A56.out).mono ?_); (case side1 => exact Z7); (case side2 => exact Z39); rintro e w76 ⟨rfl, hb⟩; refine ⟨_, rfl, ?_⟩; have n0_ := Aside0.mk (blk_below (g := gb132) (o := .cells #[.slice A0_0 l0_0.length c0_0, .bool false, .int .i64 a0_2] 66 (0, 0)) Z27 hb); have n1_ := Aside0.mk (below_step Z9 hb); clear BK132; clear HB; have BK132 := n0_; have HB := n1_; clear n0_ n1_; (try clear hb); (try clear hb2); (try clear hk); (try clear hi); have hcz77_0 : w76.cell? ⟨gb132, 0, none⟩ = some (.slice A0_0 l0_0.length c0_0) := (blk_cell BK132.out 0).trans rfl; have hcz77_1 : w76.cell? ⟨gb132, 1, none⟩ = some (.bool false) := (blk_cell BK132.out 1).trans rfl; have hcz77_2 : w76.cell? ⟨gb132, 2, none⟩ = some (.int .i64 a0_2) := (blk_cell BK132.out 2).trans rfl; have hfz77_0 := blk_frozen BK132.out 0; have hfz77_1 := blk_frozen BK132.out 1; have hfz77_2 := blk_frozen BK132.out 2))
         go_ret
         exact Z10
        ·rw [if_neg c75] at H
         have c75b0 : decide (a0_2 < 0) = false := decide_eq_false c75
         clear c75
         by_cases c78 : a0_2 > 9
         ·rw [if_pos c78] at H
          have c78b0 : decide (9 < a0_2) = true := decide_eq_true c78
          clear c78
          obtain rfl := Option.some.inj H
          go_wp2_with (first | ((with_reducible refine gate_callee (f := 85) rfl ?_); refine goesL_ (some 87) rfl rfl Tryd.func85 (by kernel_rfl) rfl #[.slice A0_0 l0_0.length c0_0] rfl Z3 ?_; (with_reducible refine (tabardref13_beside.calls kj6 _ _ l0_0 t164 _ ?side1 ?side2 A56.out).mono ?_); (case side1 => exact Z7); (case side2 => exact Z39); rintro e w79 ⟨rfl, hb⟩; refine ⟨_, rfl, ?_⟩; have n0_ := Aside0.mk (blk_below (g := gb132) (o := .cells #[.slice A0_0 l0_0.length c0_0, .bool false, .int .i64 a0_2] 66 (0, 0)) Z27 hb); have n1_ := Aside0.mk (below_step Z9 hb); clear BK132; clear HB; have BK132 := n0_; have HB := n1_; clear n0_ n1_; (try clear hb); (try clear hb2); (try clear hk); (try clear hi); have hcz80_0 : w79.cell? ⟨gb132, 0, none⟩ = some (.slice A0_0 l0_0.length c0_0) := (blk_cell BK132.out 0).trans rfl; have hcz80_1 : w79.cell? ⟨gb132, 1, none⟩ = some (.bool false) := (blk_cell BK132.out 1).trans rfl; have hcz80_2 : w79.cell? ⟨gb132, 2, none⟩ = some (.int .i64 a0_2) := (blk_cell BK132.out 2).trans rfl; have hfz80_0 := blk_frozen BK132.out 0; have hfz80_1 := blk_frozen BK132.out 1; have hfz80_2 := blk_frozen BK132.out 2))
          go_ret
          exact Z10
         ·rw [if_neg c78] at H
          have c78b0 : decide (9 < a0_2) = false := decide_eq_false c78
          clear c78
          by_cases c81 : a0_2 > 0
          ·rw [if_pos c81] at H
           have c81b0 : decide (0 < a0_2) = true := decide_eq_true c81
           clear c81
           by_cases c82 : t139 = 0
           ·rw [if_pos c82] at H
            have c82b0 : (t139 == 0) = true := beq_iff_eq.mpr c82
            have c82b1 : (t139 != 0) = false := bne_eq_false_iff_eq.mpr c82
            clear c82
            obtain rfl := Option.some.inj H
            go_wp2_with (first | ((with_reducible refine gate_callee (f := 85) rfl ?_); refine goesL_ (some 87) rfl rfl Tryd.func85 (by kernel_rfl) rfl #[.slice A0_0 l0_0.length c0_0] rfl Z3 ?_; (with_reducible refine (tabardref13_beside.calls kj6 _ _ l0_0 t164 _ ?side1 ?side2 A56.out).mono ?_); (case side1 => exact Z7); (case side2 => exact Z39); rintro e w83 ⟨rfl, hb⟩; refine ⟨_, rfl, ?_⟩; have n0_ := Aside0.mk (blk_below (g := gb132) (o := .cells #[.slice A0_0 l0_0.length c0_0, .bool false, .int .i64 a0_2] 66 (0, 0)) Z27 hb); have n1_ := Aside0.mk (below_step Z9 hb); clear BK132; clear HB; have BK132 := n0_; have HB := n1_; clear n0_ n1_; (try clear hb); (try clear hb2); (try clear hk); (try clear hi); have hcz84_0 : w83.cell? ⟨gb132, 0, none⟩ = some (.slice A0_0 l0_0.length c0_0) := (blk_cell BK132.out 0).trans rfl; have hcz84_1 : w83.cell? ⟨gb132, 1, none⟩ = some (.bool false) := (blk_cell BK132.out 1).trans rfl; have hcz84_2 : w83.cell? ⟨gb132, 2, none⟩ = some (.int .i64 a0_2) := (blk_cell BK132.out 2).trans rfl; have hfz84_0 := blk_frozen BK132.out 0; have hfz84_1 := blk_frozen BK132.out 1; have hfz84_2 := blk_frozen BK132.out 2))
            go_ret
            exact Z10
           ·rw [if_neg c82] at H
            have c82b0 : (t139 == 0) = false := beq_eq_false_iff_ne.mpr c82
            have c82b1 : (t139 != 0) = true := bne_iff_ne.mpr c82
            obtain rfl := Option.some.inj H
            go_wp2_with (first | ((with_reducible refine gate_callee (f := 85) rfl ?_); refine goesL_ (some 87) rfl rfl Tryd.func85 (by kernel_rfl) rfl #[.slice A0_0 l0_0.length c0_0] rfl Z3 ?_; (with_reducible refine (tabardref13_beside.calls kj6 _ _ l0_0 t164 _ ?side1 ?side2 A56.out).mono ?_); (case side1 => exact Z7); (case side2 => exact Z39); rintro e w85 ⟨rfl, hb⟩; refine ⟨_, rfl, ?_⟩; have n0_ := Aside0.mk (blk_below (g := gb132) (o := .cells #[.slice A0_0 l0_0.length c0_0, .bool false, .int .i64 a0_2] 66 (0, 0)) Z27 hb); have n1_ := Aside0.mk (below_step Z9 hb); clear BK132; clear HB; have BK132 := n0_; have HB := n1_; clear n0_ n1_; (try clear hb); (try clear hb2); (try clear hk); (try clear hi); have hcz86_0 : w85.cell? ⟨gb132, 0, none⟩ = some (.slice A0_0 l0_0.length c0_0) := (blk_cell BK132.out 0).trans rfl; have hcz86_1 : w85.cell? ⟨gb132, 1, none⟩ = some (.bool false) := (blk_cell BK132.out 1).trans rfl; have hcz86_2 : w85.cell? ⟨gb132, 2, none⟩ = some (.int .i64 a0_2) := (blk_cell BK132.out 2).trans rfl; have hfz86_0 := blk_frozen BK132.out 0; have hfz86_1 := blk_frozen BK132.out 1; have hfz86_2 := blk_frozen BK132.out 2))
            go_ret
            exact Z10
          ·rw [if_neg c81] at H
           have c81b0 : decide (0 < a0_2) = false := decide_eq_false c81
           clear c81
           obtain rfl := Option.some.inj H
           go_wp2_with (first | ((with_reducible refine gate_callee (f := 85) rfl ?_); refine goesL_ (some 87) rfl rfl Tryd.func85 (by kernel_rfl) rfl #[.slice A0_0 l0_0.length c0_0] rfl Z3 ?_; (with_reducible refine (tabardref13_beside.calls kj6 _ _ l0_0 t164 _ ?side1 ?side2 A56.out).mono ?_); (case side1 => exact Z7); (case side2 => exact Z39); rintro e w87 ⟨rfl, hb⟩; refine ⟨_, rfl, ?_⟩; have n0_ := Aside0.mk (blk_below (g := gb132) (o := .cells #[.slice A0_0 l0_0.length c0_0, .bool false, .int .i64 a0_2] 66 (0, 0)) Z27 hb); have n1_ := Aside0.mk (below_step Z9 hb); clear BK132; clear HB; have BK132 := n0_; have HB := n1_; clear n0_ n1_; (try clear hb); (try clear hb2); (try clear hk); (try clear hi); have hcz88_0 : w87.cell? ⟨gb132, 0, none⟩ = some (.slice A0_0 l0_0.length c0_0) := (blk_cell BK132.out 0).trans rfl; have hcz88_1 : w87.cell? ⟨gb132, 1, none⟩ = some (.bool false) := (blk_cell BK132.out 1).trans rfl; have hcz88_2 : w87.cell? ⟨gb132, 2, none⟩ = some (.int .i64 a0_2) := (blk_cell BK132.out 2).trans rfl; have hfz88_0 := blk_frozen BK132.out 0; have hfz88_1 := blk_frozen BK132.out 1; have hfz88_2 := blk_frozen BK132.out 2))
           go_ret
           exact Z10
  ·rw [if_neg c5] at H
   exact Z33
 ·rw [if_neg c4] at H
  exact Z33
end Go.Proofs.YtmbhjogohfcjgaaDoor.P
