/- The walk of (Section).many: the counts of a section's items by kind. -/
import Derived.Test.YtmbhjogohfcjgaaDoorPs2
namespace Go.Proofs.YtmbhjogohfcjgaaDoor.P
open Go.RowKit Go.Proofs.YtmbhjogohfcjgaaDoorW.PrintWords Go.Proofs.YtmbhjogohfcjgaaDoorW.PrintLast Go.Proofs.YtmbhjogohfcjgaaDoorW.PrintMore
set_option linter.unusedVariables false
set_option linter.unusedSimpArgs false
def okItem (x : S88) : Bool := (pattern_Item_right.f x.f0 x.f1).getD false
theorem okItem_some (x : S88) : pattern_Item_right.f x.f0 x.f1 = some (okItem x) := by
 have : ∃ r, pattern_Item_right.f x.f0 x.f1 = some r := by
  unfold pattern_Item_right.f utf8_DecodeRuneInString.f
  simp only [Option.bind_some]
  repeat' split
  all_goals exact ⟨_, rfl⟩
 obtain ⟨r, hr⟩ := this
 unfold okItem
 rw [hr]; rfl
theorem okItem_kind {x : S88} (h : okItem x = true) : 1 ≤ x.f0 ∧ x.f0 ≤ 9 := by
 have hs := okItem_some x
 rw [h] at hs
 unfold pattern_Item_right.f at hs
 repeat' (first | split at hs | omega | (exact absurd hs (by simp)))
def cntOf (l : List S88) (k : Int) : Int := (l.countP (fun x => x.f0 == k) : Nat)
theorem cntOf_le (l : List S88) (k : Int) : 0 ≤ cntOf l k ∧ cntOf l k ≤ l.length := by
 unfold cntOf
 exact ⟨by omega, by have := List.countP_le_length (p := fun x : S88 => x.f0 == k) (l := l); omega⟩
theorem cntOf_snoc (l : List S88) (x : S88) (k : Int) : cntOf (l ++ [x]) k = cntOf l k + if x.f0 = k then 1 else 0 := by
 unfold cntOf
 rw [List.countP_append, List.countP_singleton]
 by_cases h : x.f0 = k
 ·simp [h]
 ·simp [h]
def ten (c : Nat → Int) : Array Value := #[.int .i64 (c 0), .int .i64 (c 1), .int .i64 (c 2), .int .i64 (c 3), .int .i64 (c 4), .int .i64 (c 5), .int .i64 (c 6), .int .i64 (c 7), .int .i64 (c 8), .int .i64 (c 9)]
theorem ten_get (c : Nat → Int) (q : Nat) (h : q < 10) : (ten c)[q]? = some (.int .i64 (c q)) := by
 have : q = 0 ∨ q = 1 ∨ q = 2 ∨ q = 3 ∨ q = 4 ∨ q = 5 ∨ q = 6 ∨ q = 7 ∨ q = 8 ∨ q = 9 := by omega
 rcases this with rfl | rfl | rfl | rfl | rfl | rfl | rfl | rfl | rfl | rfl <;> rfl
theorem ten_set (c : Nat → Int) (q : Nat) (v : Int) (h : q < 10) : (ten c).setIfInBounds q (.int .i64 v) = ten (fun j => if j = q then v else c j) := by
 have : q = 0 ∨ q = 1 ∨ q = 2 ∨ q = 3 ∨ q = 4 ∨ q = 5 ∨ q = 6 ∨ q = 7 ∨ q = 8 ∨ q = 9 := by omega
 rcases this with rfl | rfl | rfl | rfl | rfl | rfl | rfl | rfl | rfl | rfl <;> rfl
theorem ten_cells {w : World} {g t : Nat} {c : Nat → Int} (h : w.heap[g]? = some (.cells (ten c) t (0, 0))) (q : Nat) (hq : q < 10) : w.cell? ⟨g, q, none⟩ = some (.int .i64 (c q)) := (blk_cell h q).trans (ten_get c q hq)
theorem ten_store {w : World} {g t : Nat} {c' : Nat → Int} (c : Nat → Int) (h : w.heap[g]? = some (.cells (ten c') t (0, 0))) :
  ((((((((((w.setCell ⟨g, 0, none⟩ (.int .i64 (c 0))).setCell ⟨g, 1, none⟩ (.int .i64 (c 1))).setCell ⟨g, 2, none⟩ (.int .i64 (c 2))).setCell ⟨g, 3, none⟩ (.int .i64 (c 3))).setCell ⟨g, 4, none⟩ (.int .i64 (c 4))).setCell ⟨g, 5, none⟩ (.int .i64 (c 5))).setCell ⟨g, 6, none⟩ (.int .i64 (c 6))).setCell ⟨g, 7, none⟩ (.int .i64 (c 7))).setCell ⟨g, 8, none⟩ (.int .i64 (c 8))).setCell ⟨g, 9, none⟩ (.int .i64 (c 9))).heap[g]? = some (.cells (ten c) t (0, 0)) := by
 have h := blk_set h 0 (.int .i64 (c 0))
 rw [ten_set _ 0 _ (by decide)] at h
 have h := blk_set h 1 (.int .i64 (c 1))
 rw [ten_set _ 1 _ (by decide)] at h
 have h := blk_set h 2 (.int .i64 (c 2))
 rw [ten_set _ 2 _ (by decide)] at h
 have h := blk_set h 3 (.int .i64 (c 3))
 rw [ten_set _ 3 _ (by decide)] at h
 have h := blk_set h 4 (.int .i64 (c 4))
 rw [ten_set _ 4 _ (by decide)] at h
 have h := blk_set h 5 (.int .i64 (c 5))
 rw [ten_set _ 5 _ (by decide)] at h
 have h := blk_set h 6 (.int .i64 (c 6))
 rw [ten_set _ 6 _ (by decide)] at h
 have h := blk_set h 7 (.int .i64 (c 7))
 rw [ten_set _ 7 _ (by decide)] at h
 have h := blk_set h 8 (.int .i64 (c 8))
 rw [ten_set _ 8 _ (by decide)] at h
 have h := blk_set h 9 (.int .i64 (c 9))
 rw [ten_set _ 9 _ (by decide)] at h
 rw [h]
 simp [ten]
theorem ten_below {B : Nat} {W w : World} {g : Nat} (c : Nat → Int) (hb : Below B W w) (hg : B ≤ g) : Below B W ((((((((((w.setCell ⟨g, 0, none⟩ (.int .i64 (c 0))).setCell ⟨g, 1, none⟩ (.int .i64 (c 1))).setCell ⟨g, 2, none⟩ (.int .i64 (c 2))).setCell ⟨g, 3, none⟩ (.int .i64 (c 3))).setCell ⟨g, 4, none⟩ (.int .i64 (c 4))).setCell ⟨g, 5, none⟩ (.int .i64 (c 5))).setCell ⟨g, 6, none⟩ (.int .i64 (c 6))).setCell ⟨g, 7, none⟩ (.int .i64 (c 7))).setCell ⟨g, 8, none⟩ (.int .i64 (c 8))).setCell ⟨g, 9, none⟩ (.int .i64 (c 9))) := ((((((((((hb.setCell (p := ⟨g, 0, none⟩) hg _).setCell (p := ⟨g, 1, none⟩) hg _).setCell (p := ⟨g, 2, none⟩) hg _).setCell (p := ⟨g, 3, none⟩) hg _).setCell (p := ⟨g, 4, none⟩) hg _).setCell (p := ⟨g, 5, none⟩) hg _).setCell (p := ⟨g, 6, none⟩) hg _).setCell (p := ⟨g, 7, none⟩) hg _).setCell (p := ⟨g, 8, none⟩) hg _).setCell (p := ⟨g, 9, none⟩) hg _)
theorem heap3 (w : World) (A B C : Obj) : (((w.alloc A).alloc B).alloc C).heap[w.heap.size + 1 + 1]? = some C := by
 show (((w.heap.push A).push B).push C)[w.heap.size + 1 + 1]? = some C
 rw [Array.getElem?_push, if_pos (by simp only [Array.size_push])]
theorem heap2 (w : World) (A B C : Obj) : (((w.alloc A).alloc B).alloc C).heap[w.heap.size + 1]? = some B := by
 show (((w.heap.push A).push B).push C)[w.heap.size + 1]? = some B
 rw [Array.getElem?_push, if_neg (by simp only [Array.size_push]; omega), Array.getElem?_push, if_pos (by simp only [Array.size_push])]
def Counted (l : List S88) (w : World) (e : Ending) (w' : World) : Prop :=
 ∃ c : Nat → Int, e = .returned (.tuple #[.agg (ten c), .bool (l.all okItem)]) ∧ (l.all okItem = true → ∀ q, q < 10 → c q = cntOf l (q : Int)) ∧ Below w.heap.size w w'
set_option maxHeartbeats 4000000 in
theorem many_walk (A0 : Option Addr) (c0 : Nat) (l0 : List S88) (b : Bool) (sc : Int) (w : World) (hGL : GL w) (hr : Kd.C k88 w A0 l0.length l0) (hc : l0.length ≤ c0) :
  Calls Tryd.prog 51 #[.agg #[.slice A0 l0.length c0, .bool b, .int .i64 sc]] w (Counted l0 w) := by
 have hm : l0.length ≤ 9223372036854775807 := hr.2.1
 have HR := Aside0.mk hr
 have HGL := Aside0.mk hGL
 clear hr hGL
 go_enter Tryd.func51, Tryd.ntmps51
 go_wp2
 have z0 : (#[.int .i64 0, .int .i64 0, .int .i64 0, .int .i64 0, .int .i64 0, .int .i64 0, .int .i64 0, .int .i64 0, .int .i64 0, .int .i64 0] : Array Value) = ten (fun _ => 0) := rfl
 go_loopw [10] (fun i w' => ∃ (k : Nat) (c : Nat → Int), k ≤ l0.length ∧ i = .int .i64 k ∧ Aside0 (∀ x ∈ l0.take k, okItem x = true) ∧ Aside0 (∀ q, q < 10 → c q = cntOf (l0.take k) (q : Int)) ∧ Aside0 (w'.heap[w.heap.size + 1 + 1]? = some (.cells (ten c) 90 (0, 0))) ∧
  Aside0 (w'.heap[w.heap.size + 1]? = some (.cells (ten fun _ => 0) 90 (0, 0))) ∧ Aside0 (Below w.heap.size w w')) (fun i _ => l0.length - (intOf i).toNat)
 case atStart =>
  refine ⟨0, fun _ => 0, Nat.zero_le _, rfl, ⟨by simp⟩, ⟨fun q _ => by simp [cntOf]⟩, ⟨?_⟩, ⟨?_⟩, ⟨((((Below.refl _ _).alloc (Nat.le_refl _) _).alloc (by simp) _).alloc (by simp; omega) _)⟩⟩
  ·exact heap3 _ _ _ _
  ·exact heap2 _ _ _ _
 case round =>
  clear z0
  obtain ⟨k, c, hk, rfl, HA, HN, HG, HZ, HB⟩ := hrel
  by_cases hlt : k < l0.length
  ·have hlt' : (k : Int) < (l0.length : Int) := by omega
   obtain ⟨ad, e, hx0, hx1⟩ := at_T88 HR.out (k : Int) (by omega) hlt'
   cases e
   rw [Int.toNat_natCast] at hx0 hx1
   replace hx0 := (HB.out.cell (World.block_lt_of_cell? w _ hx0)).trans hx0
   replace hx1 := (HB.out.cell (World.block_lt_of_cell? w _ hx1)).trans hx1
   have hb1 := (Below.refl wr.heap.size wr).alloc (Nat.le_refl _) (.cells #[.int .i64 (rd_T88 l0 (k : Int)).f0, .string (rd_T88 l0 (k : Int)).f1] 88 (0, 0))
   have HB1 := Aside0.mk hb1
   have hR := Aside0.mk (pattern_Item_right.calls _ _ _ _ (HGL.out.below (HB.out.trans (hb1.mono HB.out.size))) (okItem_some (rd_T88 l0 (k : Int))))
   have hg1 := heap_alloc_new wr (.cells #[.int .i64 (rd_T88 l0 (k : Int)).f0, .string (rd_T88 l0 (k : Int)).f1] 88 (0, 0))
   have HG1 := Aside0.mk hg1
   have HGa := Aside0.mk (blk_alloc HG.out (.cells #[.int .i64 (rd_T88 l0 (k : Int)).f0, .string (rd_T88 l0 (k : Int)).f1] 88 (0, 0)))
   have HZa := Aside0.mk (blk_alloc HZ.out (.cells #[.int .i64 (rd_T88 l0 (k : Int)).f0, .string (rd_T88 l0 (k : Int)).f1] 88 (0, 0)))
   clear hb1 hg1
   cases hok : okItem (rd_T88 l0 (k : Int))
   ·rw [hok] at hR
    have HOK := Aside0.mk hok
    clear hok
    go_wp2_with (go_at_call 81; (with_reducible refine hR.out.mono ?_); rintro e w2 ⟨rfl, hb2⟩; have HB2 := Aside0.mk hb2; have HG2 := Aside0.mk (blk_below HGa.out hb2); have HZ2 := Aside0.mk (blk_below HZa.out hb2); clear hb2; have g0 := ten_cells HG2.out 0 (by decide); have g1 := ten_cells HG2.out 1 (by decide); have g2 := ten_cells HG2.out 2 (by decide); have g3 := ten_cells HG2.out 3 (by decide); have g4 := ten_cells HG2.out 4 (by decide); have g5 := ten_cells HG2.out 5 (by decide); have g6 := ten_cells HG2.out 6 (by decide); have g7 := ten_cells HG2.out 7 (by decide); have g8 := ten_cells HG2.out 8 (by decide); have g9 := ten_cells HG2.out 9 (by decide); have z0 := ten_cells HZ2.out 0 (by decide); have z1 := ten_cells HZ2.out 1 (by decide); have z2 := ten_cells HZ2.out 2 (by decide); have z3 := ten_cells HZ2.out 3 (by decide); have z4 := ten_cells HZ2.out 4 (by decide); have z5 := ten_cells HZ2.out 5 (by decide); have z6 := ten_cells HZ2.out 6 (by decide); have z7 := ten_cells HZ2.out 7 (by decide); have z8 := ten_cells HZ2.out 8 (by decide); have z9 := ten_cells HZ2.out 9 (by decide); have f0 := blk_frozen HZ2.out 0; have f1 := blk_frozen HZ2.out 1; have f2 := blk_frozen HZ2.out 2; have f3 := blk_frozen HZ2.out 3; have f4 := blk_frozen HZ2.out 4; have f5 := blk_frozen HZ2.out 5; have f6 := blk_frozen HZ2.out 6; have f7 := blk_frozen HZ2.out 7; have f8 := blk_frozen HZ2.out 8; have f9 := blk_frozen HZ2.out 9)
    have hall : l0.all okItem = false := by
     rw [List.all_eq_false]
     refine ⟨_, List.getElem_mem hlt, ?_⟩
     have := HOK.out
     rw [rd_T88, Int.toNat_natCast, List.getD_eq_getElem?_getD, List.getElem?_eq_getElem hlt] at this
     simpa using this
    refine bodyPost_ret (v := .tuple #[.agg (ten c), .bool false]) (results_ct Tryd.results51 _ _ (w.heap.size + 1) 90 (ten c) (0, 0) _ rfl (ten_store c HZ2.out) Tryd.underlying90 rfl (by kernel_rfl)) rfl ?_
    refine ⟨c, by rw [hall], fun h => absurd h (by simp [hall]), ten_below c (HB.out.trans ((HB1.out.trans (HB2.out.mono (by simp))).mono HB.out.size)) (by omega)⟩
   ·have HOK := Aside0.mk hok
    rw [hok] at hR
    obtain ⟨hq1, hq2⟩ := okItem_kind hok
    clear hok
    obtain ⟨q, hq⟩ : ∃ q : Nat, (rd_T88 l0 (k : Int)).f0 = (q : Int) := ⟨(rd_T88 l0 (k : Int)).f0.toNat, by omega⟩
    have HQ := Aside0.mk hq
    rw [hq] at hq1 hq2 hx0 hR HB1 HG1 HGa HZa
    clear hq
    have hq2' : q < 10 := by omega
    have hq10 : (q : Int) < 10 := by omega
    have hcn := HN.out q hq2'
    have hcb := cntOf_le (l0.take k) (q : Int)
    rw [← hcn] at hcb
    have hlk : (l0.take k).length ≤ k := List.length_take_le _ _
    have hc1 : 0 ≤ c q := hcb.1
    have hc2 : c q ≤ k := by omega
    clear hcn hcb hlk
    go_wp2_with (go_at_call 81; (with_reducible refine hR.out.mono ?_); rintro e w2 ⟨rfl, hb2⟩; have HB2 := Aside0.mk hb2; have HG2 := Aside0.mk (blk_below HGa.out hb2); have HZ2 := Aside0.mk (blk_below HZa.out hb2); have HX2 := Aside0.mk (blk_below HG1.out hb2); clear hb2; have gq := ten_cells HG2.out q hq2'; have fq := blk_frozen HG2.out q; have gx : w2.cell? ⟨wr.heap.size, 0, none⟩ = some (.int .i64 q) := (blk_cell HX2.out 0).trans rfl)
    go_roundw
    case rel =>
     have hx : l0[k] = rd_T88 l0 (k : Int) := by rw [rd_T88, Int.toNat_natCast, List.getD_eq_getElem?_getD, List.getElem?_eq_getElem hlt]; rfl
     refine ⟨k + 1, fun j => if j = q then c q + 1 else c j, by omega, by go_num, ⟨fun x hx' => ?_⟩, ⟨fun j hj => ?_⟩, ⟨?_⟩, ⟨?_⟩, ⟨?_⟩⟩
     ·rw [List.take_succ_eq_append_getElem hlt] at hx'
      rcases List.mem_append.1 hx' with hx' | hx'
      ·exact HA.out x hx'
      ·rw [List.mem_singleton.1 hx', hx]; exact HOK.out
     ·rw [List.take_succ_eq_append_getElem hlt, cntOf_snoc, hx, HQ.out, ← HN.out j hj]
      by_cases hjq : j = q
      ·subst hjq; simp
      ·show (if j = q then c q + 1 else c j) = _
       rw [if_neg hjq, if_neg (by omega)]; omega
     ·have h := blk_set HG2.out q (.int .i64 (c q + 1))
      rwa [ten_set _ q _ hq2'] at h
     ·exact blk_far HZ2.out (p := ⟨w.heap.size + 1 + 1, q, none⟩) (by simp) _
     ·exact (HB.out.trans ((HB1.out.trans (HB2.out.mono (by simp))).mono HB.out.size)).setCell (p := ⟨w.heap.size + 1 + 1, q, none⟩) (by simp; omega) _
    case measure => simp [intOf]; omega
  ·obtain rfl : k = l0.length := by omega
   have hall : l0.all okItem = true := by
    rw [List.all_eq_true]
    have := HA.out
    rwa [List.take_length] at this
   have hN := HN.out
   rw [List.take_length] at hN
   have HNN := Aside0.mk hN
   have HALL := Aside0.mk hall
   clear hN hall
   have g0 := ten_cells HG.out 0 (by decide); have g1 := ten_cells HG.out 1 (by decide); have g2 := ten_cells HG.out 2 (by decide); have g3 := ten_cells HG.out 3 (by decide); have g4 := ten_cells HG.out 4 (by decide); have g5 := ten_cells HG.out 5 (by decide); have g6 := ten_cells HG.out 6 (by decide); have g7 := ten_cells HG.out 7 (by decide); have g8 := ten_cells HG.out 8 (by decide); have g9 := ten_cells HG.out 9 (by decide)
   have z0 := ten_cells HZ.out 0 (by decide); have z1 := ten_cells HZ.out 1 (by decide); have z2 := ten_cells HZ.out 2 (by decide); have z3 := ten_cells HZ.out 3 (by decide); have z4 := ten_cells HZ.out 4 (by decide); have z5 := ten_cells HZ.out 5 (by decide); have z6 := ten_cells HZ.out 6 (by decide); have z7 := ten_cells HZ.out 7 (by decide); have z8 := ten_cells HZ.out 8 (by decide); have z9 := ten_cells HZ.out 9 (by decide)
   have f0 := blk_frozen HZ.out 0; have f1 := blk_frozen HZ.out 1; have f2 := blk_frozen HZ.out 2; have f3 := blk_frozen HZ.out 3; have f4 := blk_frozen HZ.out 4; have f5 := blk_frozen HZ.out 5; have f6 := blk_frozen HZ.out 6; have f7 := blk_frozen HZ.out 7; have f8 := blk_frozen HZ.out 8; have f9 := blk_frozen HZ.out 9
   go_wp2
   refine bodyPost_ret (v := .tuple #[.agg (ten c), .bool true]) (results_ct Tryd.results51 _ _ (w.heap.size + 1) 90 (ten c) (0, 0) _ rfl (ten_store c HZ.out) Tryd.underlying90 rfl (by kernel_rfl)) rfl ?_
   refine ⟨c, by rw [HALL.out], fun _ => HNN.out, ten_below c HB.out (by omega)⟩
end Go.Proofs.YtmbhjogohfcjgaaDoor.P
