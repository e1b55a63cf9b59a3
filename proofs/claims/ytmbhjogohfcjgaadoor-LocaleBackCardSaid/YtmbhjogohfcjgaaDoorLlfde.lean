/- The law's find at 'de'. -/
import Derived.Test.YtmbhjogohfcjgaaDoorLlf0
import Derived.Outline
import Derived.RegionTactic
import Derived.BigRegion
namespace Go.Proofs.YtmbhjogohfcjgaaDoor.L
open Go.RowKit Go.Proofs.YtmbhjogohfcjgaaDoorW.PrintWords
set_option linter.unusedVariables false
set_option maxRecDepth 100000 in
set_option maxHeartbeats 4000000 in
theorem lawfind_de (a : Int) (w : World) (hGL : GL w) (hp : tabardlaw11_pick.f a 6 = some 1) : Calls Tryd.prog 11 #[.int .i64 a] w (LawFinds w ⟨#[100, 101]⟩ ⟨#[44]⟩ ⟨#[46]⟩ ⟨#[59]⟩ ⟨#[45]⟩ ⟨#[37]⟩ ⟨#[226, 130, 172]⟩ false true [3] 3) := by
  have HG := Aside0.mk hGL
  have HP := Aside0.mk hp
  clear hGL hp
  go_enter Tryd.func11, Tryd.ntmps11
  go_wp2_with fail
  have HB0 : Aside0 (Below w.heap.size w ((w.alloc (.cells #[.string ⟨#[]⟩, .string ⟨#[]⟩, .string ⟨#[]⟩, .string ⟨#[]⟩, .string ⟨#[]⟩, .string ⟨#[]⟩, .string ⟨#[]⟩, .bool false, .bool false, .slice none 0 0] 25)).alloc (.cells #[.string ⟨#[]⟩, .string ⟨#[]⟩, .string ⟨#[]⟩, .string ⟨#[]⟩, .string ⟨#[]⟩, .string ⟨#[]⟩, .string ⟨#[]⟩, .bool false, .bool false, .int .i64 0] 27))) := ⟨((Below.refl _ _).alloc (Nat.le_refl _) _).alloc (by simp) _⟩
  have HX : Aside0 (((w.alloc (.cells #[.string ⟨#[]⟩, .string ⟨#[]⟩, .string ⟨#[]⟩, .string ⟨#[]⟩, .string ⟨#[]⟩, .string ⟨#[]⟩, .string ⟨#[]⟩, .bool false, .bool false, .slice none 0 0] 25)).alloc (.cells #[.string ⟨#[]⟩, .string ⟨#[]⟩, .string ⟨#[]⟩, .string ⟨#[]⟩, .string ⟨#[]⟩, .string ⟨#[]⟩, .string ⟨#[]⟩, .bool false, .bool false, .int .i64 0] 27)).heap[w.heap.size]? = some (.cells #[.string ⟨#[]⟩, .string ⟨#[]⟩, .string ⟨#[]⟩, .string ⟨#[]⟩, .string ⟨#[]⟩, .string ⟨#[]⟩, .string ⟨#[]⟩, .bool false, .bool false, .slice none 0 0] 25 (0, 0))) := ⟨blk_alloc (heap_alloc_new w _) _⟩
  have HY : Aside0 (((w.alloc (.cells #[.string ⟨#[]⟩, .string ⟨#[]⟩, .string ⟨#[]⟩, .string ⟨#[]⟩, .string ⟨#[]⟩, .string ⟨#[]⟩, .string ⟨#[]⟩, .bool false, .bool false, .slice none 0 0] 25)).alloc (.cells #[.string ⟨#[]⟩, .string ⟨#[]⟩, .string ⟨#[]⟩, .string ⟨#[]⟩, .string ⟨#[]⟩, .string ⟨#[]⟩, .string ⟨#[]⟩, .bool false, .bool false, .int .i64 0] 27)).heap[w.heap.size + 1]? = some (.cells #[.string ⟨#[]⟩, .string ⟨#[]⟩, .string ⟨#[]⟩, .string ⟨#[]⟩, .string ⟨#[]⟩, .string ⟨#[]⟩, .string ⟨#[]⟩, .bool false, .bool false, .int .i64 0] 27 (0, 0))) := ⟨by simpa using heap_alloc_new (w.alloc (.cells #[.string ⟨#[]⟩, .string ⟨#[]⟩, .string ⟨#[]⟩, .string ⟨#[]⟩, .string ⟨#[]⟩, .string ⟨#[]⟩, .string ⟨#[]⟩, .bool false, .bool false, .slice none 0 0] 25)) _⟩
  refine (all_walk _).mono ?_
  rintro e w1 ⟨rfl, hb1, ha1⟩
  have HB1 : Aside0 (Below w.heap.size w w1) := ⟨HB0.out.trans (hb1.mono (by simp; omega))⟩
  have HX1 : Aside0 (w1.heap[w.heap.size]? = some (.cells #[.string ⟨#[]⟩, .string ⟨#[]⟩, .string ⟨#[]⟩, .string ⟨#[]⟩, .string ⟨#[]⟩, .string ⟨#[]⟩, .string ⟨#[]⟩, .bool false, .bool false, .slice none 0 0] 25 (0, 0))) := ⟨(hb1.block _ (by simp; omega)).trans HX.out⟩
  have HY1 : Aside0 (w1.heap[w.heap.size + 1]? = some (.cells #[.string ⟨#[]⟩, .string ⟨#[]⟩, .string ⟨#[]⟩, .string ⟨#[]⟩, .string ⟨#[]⟩, .string ⟨#[]⟩, .string ⟨#[]⟩, .bool false, .bool false, .int .i64 0] 27 (0, 0))) := ⟨(hb1.block _ (by simp)).trans HY.out⟩
  have HA1 : Aside0 (w1.heap[w.heap.size + 1 + 1]? = some (.cells allCells 27 (0, 0))) := ⟨by simpa using ha1⟩
  have HS1 : Aside0 (w.heap.size + 1 + 1 < w1.heap.size) := ⟨blk_lt HA1.out⟩
  clear HX HY HB0 hb1 ha1
  go_wp2_with fail
  refine (pick_walk a 1 _ HP.out).mono ?_
  rintro e w2 ⟨rfl, hb2⟩
  have HB2 : Aside0 (Below w.heap.size w w2) := ⟨HB1.out.trans (hb2.mono HB1.out.size)⟩
  have HX2 : Aside0 (w2.heap[w.heap.size]? = some (.cells #[.string ⟨#[]⟩, .string ⟨#[]⟩, .string ⟨#[]⟩, .string ⟨#[]⟩, .string ⟨#[]⟩, .string ⟨#[]⟩, .string ⟨#[]⟩, .bool false, .bool false, .slice none 0 0] 25 (0, 0))) := ⟨(hb2.block _ (by have := HS1.out; omega)).trans HX1.out⟩
  have HY2 : Aside0 (w2.heap[w.heap.size + 1]? = some (.cells #[.string ⟨#[]⟩, .string ⟨#[]⟩, .string ⟨#[]⟩, .string ⟨#[]⟩, .string ⟨#[]⟩, .string ⟨#[]⟩, .string ⟨#[]⟩, .bool false, .bool false, .int .i64 0] 27 (0, 0))) := ⟨(hb2.block _ (by have := HS1.out; omega)).trans HY1.out⟩
  have HA2 : Aside0 (w2.heap[w.heap.size + 1 + 1]? = some (.cells allCells 27 (0, 0))) := ⟨(hb2.block _ (by have := HS1.out; omega)).trans HA1.out⟩
  have HS2 : Aside0 (w.heap.size + 1 + 1 < w2.heap.size) := ⟨blk_lt HA2.out⟩
  clear hb2 HX1 HY1 HA1 HB1 HS1
  have c0 : w2.cell? ⟨w.heap.size + 1 + 1, 10, none⟩ = some (.string ⟨#[100, 101]⟩) := (blk_cell HA2.out 10).trans rfl
  have c1 : w2.cell? ⟨w.heap.size + 1 + 1, 11, none⟩ = some (.string ⟨#[44]⟩) := (blk_cell HA2.out 11).trans rfl
  have c2 : w2.cell? ⟨w.heap.size + 1 + 1, 12, none⟩ = some (.string ⟨#[46]⟩) := (blk_cell HA2.out 12).trans rfl
  have c3 : w2.cell? ⟨w.heap.size + 1 + 1, 13, none⟩ = some (.string ⟨#[59]⟩) := (blk_cell HA2.out 13).trans rfl
  have c4 : w2.cell? ⟨w.heap.size + 1 + 1, 14, none⟩ = some (.string ⟨#[45]⟩) := (blk_cell HA2.out 14).trans rfl
  have c5 : w2.cell? ⟨w.heap.size + 1 + 1, 15, none⟩ = some (.string ⟨#[37]⟩) := (blk_cell HA2.out 15).trans rfl
  have c6 : w2.cell? ⟨w.heap.size + 1 + 1, 16, none⟩ = some (.string ⟨#[226, 130, 172]⟩) := (blk_cell HA2.out 16).trans rfl
  have c7 : w2.cell? ⟨w.heap.size + 1 + 1, 17, none⟩ = some (.bool false) := (blk_cell HA2.out 17).trans rfl
  have c8 : w2.cell? ⟨w.heap.size + 1 + 1, 18, none⟩ = some (.bool true) := (blk_cell HA2.out 18).trans rfl
  have c9 : w2.cell? ⟨w.heap.size + 1 + 1, 19, none⟩ = some (.int .i64 3) := (blk_cell HA2.out 19).trans rfl
  go_wp2_with fail
  have HB3 : Aside0 (Below w.heap.size w (w2.alloc (.cells #[.string ⟨#[100, 101]⟩, .string ⟨#[44]⟩, .string ⟨#[46]⟩, .string ⟨#[59]⟩, .string ⟨#[45]⟩, .string ⟨#[37]⟩, .string ⟨#[226, 130, 172]⟩, .bool false, .bool true, .int .i64 3] 27))) := ⟨HB2.out.alloc HB2.out.size _⟩
  have HX3 : Aside0 ((w2.alloc (.cells #[.string ⟨#[100, 101]⟩, .string ⟨#[44]⟩, .string ⟨#[46]⟩, .string ⟨#[59]⟩, .string ⟨#[45]⟩, .string ⟨#[37]⟩, .string ⟨#[226, 130, 172]⟩, .bool false, .bool true, .int .i64 3] 27)).heap[w.heap.size]? = some (.cells #[.string ⟨#[]⟩, .string ⟨#[]⟩, .string ⟨#[]⟩, .string ⟨#[]⟩, .string ⟨#[]⟩, .string ⟨#[]⟩, .string ⟨#[]⟩, .bool false, .bool false, .slice none 0 0] 25 (0, 0))) := ⟨blk_alloc HX2.out _⟩
  have HY3 : Aside0 ((w2.alloc (.cells #[.string ⟨#[100, 101]⟩, .string ⟨#[44]⟩, .string ⟨#[46]⟩, .string ⟨#[59]⟩, .string ⟨#[45]⟩, .string ⟨#[37]⟩, .string ⟨#[226, 130, 172]⟩, .bool false, .bool true, .int .i64 3] 27)).heap[w.heap.size + 1]? = some (.cells #[.string ⟨#[]⟩, .string ⟨#[]⟩, .string ⟨#[]⟩, .string ⟨#[]⟩, .string ⟨#[]⟩, .string ⟨#[]⟩, .string ⟨#[]⟩, .bool false, .bool false, .int .i64 0] 27 (0, 0))) := ⟨blk_alloc HY2.out _⟩
  have HR3 : Aside0 ((w2.alloc (.cells #[.string ⟨#[100, 101]⟩, .string ⟨#[44]⟩, .string ⟨#[46]⟩, .string ⟨#[59]⟩, .string ⟨#[45]⟩, .string ⟨#[37]⟩, .string ⟨#[226, 130, 172]⟩, .bool false, .bool true, .int .i64 3] 27)).heap[w2.heap.size]? = some (.cells #[.string ⟨#[100, 101]⟩, .string ⟨#[44]⟩, .string ⟨#[46]⟩, .string ⟨#[59]⟩, .string ⟨#[45]⟩, .string ⟨#[37]⟩, .string ⟨#[226, 130, 172]⟩, .bool false, .bool true, .int .i64 3] 27 (0, 0))) := ⟨heap_alloc_new w2 _⟩
  clear HX2 HY2 HA2 HB2 c0 c1 c2 c3 c4 c5 c6 c7 c8 c9
  refine (find_de _ (HG.out.below HB3.out)).mono ?_
  rintro e w4 ⟨v, he, ⟨g, hv, hg, hgb⟩, hb4⟩
  subst hv
  subst he
  have HB4 : Aside0 (Below w.heap.size w w4) := ⟨HB3.out.trans (hb4.mono HB3.out.size)⟩
  have HX4 : Aside0 (w4.heap[w.heap.size]? = some (.cells #[.string ⟨#[]⟩, .string ⟨#[]⟩, .string ⟨#[]⟩, .string ⟨#[]⟩, .string ⟨#[]⟩, .string ⟨#[]⟩, .string ⟨#[]⟩, .bool false, .bool false, .slice none 0 0] 25 (0, 0))) := ⟨(hb4.block _ (blk_lt HX3.out)).trans HX3.out⟩
  have HY4 : Aside0 (w4.heap[w.heap.size + 1]? = some (.cells #[.string ⟨#[]⟩, .string ⟨#[]⟩, .string ⟨#[]⟩, .string ⟨#[]⟩, .string ⟨#[]⟩, .string ⟨#[]⟩, .string ⟨#[]⟩, .bool false, .bool false, .int .i64 0] 27 (0, 0))) := ⟨(hb4.block _ (blk_lt HY3.out)).trans HY3.out⟩
  have HR4 : Aside0 (w4.heap[w2.heap.size]? = some (.cells #[.string ⟨#[100, 101]⟩, .string ⟨#[44]⟩, .string ⟨#[46]⟩, .string ⟨#[59]⟩, .string ⟨#[45]⟩, .string ⟨#[37]⟩, .string ⟨#[226, 130, 172]⟩, .bool false, .bool true, .int .i64 3] 27 (0, 0))) := ⟨(hb4.block _ (blk_lt HR3.out)).trans HR3.out⟩
  have HS4 : Aside0 (w.heap.size + 1 + 1 < w2.heap.size ∧ w2.heap.size < w4.heap.size) := ⟨HS2.out, blk_lt HR4.out⟩
  have HGB : Aside0 (w4.heap[g]? = some (.cells (([3].map (Value.int .i64)).toArray) 3 (0, 0))) := ⟨hgb⟩
  have HGG : Aside0 (w2.heap.size < g) := ⟨by simp at hg; omega⟩
  clear HX3 HY3 HR3 HB3 HS2 hb4 hg hgb HG HP
  go_wp2_with fail
  have HX5 : Aside0 ((w4.alloc (.cells #[.string ⟨#[100, 101]⟩, .string ⟨#[44]⟩, .string ⟨#[46]⟩, .string ⟨#[59]⟩, .string ⟨#[45]⟩, .string ⟨#[37]⟩, .string ⟨#[226, 130, 172]⟩, .bool false, .bool true, .slice (some ⟨g, 0, none⟩) 1 1] 25)).heap[w.heap.size]? = some (.cells #[.string ⟨#[]⟩, .string ⟨#[]⟩, .string ⟨#[]⟩, .string ⟨#[]⟩, .string ⟨#[]⟩, .string ⟨#[]⟩, .string ⟨#[]⟩, .bool false, .bool false, .slice none 0 0] 25 (0, 0))) := ⟨blk_alloc HX4.out _⟩
  have HY5 : Aside0 ((w4.alloc (.cells #[.string ⟨#[100, 101]⟩, .string ⟨#[44]⟩, .string ⟨#[46]⟩, .string ⟨#[59]⟩, .string ⟨#[45]⟩, .string ⟨#[37]⟩, .string ⟨#[226, 130, 172]⟩, .bool false, .bool true, .slice (some ⟨g, 0, none⟩) 1 1] 25)).heap[w.heap.size + 1]? = some (.cells #[.string ⟨#[]⟩, .string ⟨#[]⟩, .string ⟨#[]⟩, .string ⟨#[]⟩, .string ⟨#[]⟩, .string ⟨#[]⟩, .string ⟨#[]⟩, .bool false, .bool false, .int .i64 0] 27 (0, 0))) := ⟨blk_alloc HY4.out _⟩
  have HR5 : Aside0 ((w4.alloc (.cells #[.string ⟨#[100, 101]⟩, .string ⟨#[44]⟩, .string ⟨#[46]⟩, .string ⟨#[59]⟩, .string ⟨#[45]⟩, .string ⟨#[37]⟩, .string ⟨#[226, 130, 172]⟩, .bool false, .bool true, .slice (some ⟨g, 0, none⟩) 1 1] 25)).heap[w2.heap.size]? = some (.cells #[.string ⟨#[100, 101]⟩, .string ⟨#[44]⟩, .string ⟨#[46]⟩, .string ⟨#[59]⟩, .string ⟨#[45]⟩, .string ⟨#[37]⟩, .string ⟨#[226, 130, 172]⟩, .bool false, .bool true, .int .i64 3] 27 (0, 0))) := ⟨blk_alloc HR4.out _⟩
  have HL5 : Aside0 ((w4.alloc (.cells #[.string ⟨#[100, 101]⟩, .string ⟨#[44]⟩, .string ⟨#[46]⟩, .string ⟨#[59]⟩, .string ⟨#[45]⟩, .string ⟨#[37]⟩, .string ⟨#[226, 130, 172]⟩, .bool false, .bool true, .slice (some ⟨g, 0, none⟩) 1 1] 25)).heap[w4.heap.size]? = some (.cells #[.string ⟨#[100, 101]⟩, .string ⟨#[44]⟩, .string ⟨#[46]⟩, .string ⟨#[59]⟩, .string ⟨#[45]⟩, .string ⟨#[37]⟩, .string ⟨#[226, 130, 172]⟩, .bool false, .bool true, .slice (some ⟨g, 0, none⟩) 1 1] 25 (0, 0))) := ⟨heap_alloc_new w4 _⟩
  have HG5 : Aside0 ((w4.alloc (.cells #[.string ⟨#[100, 101]⟩, .string ⟨#[44]⟩, .string ⟨#[46]⟩, .string ⟨#[59]⟩, .string ⟨#[45]⟩, .string ⟨#[37]⟩, .string ⟨#[226, 130, 172]⟩, .bool false, .bool true, .slice (some ⟨g, 0, none⟩) 1 1] 25)).heap[g]? = some (.cells (([3].map (Value.int .i64)).toArray) 3 (0, 0))) := ⟨blk_alloc HGB.out _⟩
  have HB5 : Aside0 (Below w.heap.size w (w4.alloc (.cells #[.string ⟨#[100, 101]⟩, .string ⟨#[44]⟩, .string ⟨#[46]⟩, .string ⟨#[59]⟩, .string ⟨#[45]⟩, .string ⟨#[37]⟩, .string ⟨#[226, 130, 172]⟩, .bool false, .bool true, .slice (some ⟨g, 0, none⟩) 1 1] 25))) := ⟨HB4.out.alloc HB4.out.size _⟩
  generalize (w4.alloc (.cells #[.string ⟨#[100, 101]⟩, .string ⟨#[44]⟩, .string ⟨#[46]⟩, .string ⟨#[59]⟩, .string ⟨#[45]⟩, .string ⟨#[37]⟩, .string ⟨#[226, 130, 172]⟩, .bool false, .bool true, .slice (some ⟨g, 0, none⟩) 1 1] 25)) = w5 at HX5 HY5 HR5 HL5 HG5 HB5 ⊢
  clear HX4 HY4 HR4 HB4 HGB
  have x0 : w5.cell? ⟨w.heap.size, 0, none⟩ = some (.string ⟨#[]⟩) := (blk_cell HX5.out 0).trans rfl
  have x1 : w5.cell? ⟨w.heap.size, 1, none⟩ = some (.string ⟨#[]⟩) := (blk_cell HX5.out 1).trans rfl
  have x2 : w5.cell? ⟨w.heap.size, 2, none⟩ = some (.string ⟨#[]⟩) := (blk_cell HX5.out 2).trans rfl
  have x3 : w5.cell? ⟨w.heap.size, 3, none⟩ = some (.string ⟨#[]⟩) := (blk_cell HX5.out 3).trans rfl
  have x4 : w5.cell? ⟨w.heap.size, 4, none⟩ = some (.string ⟨#[]⟩) := (blk_cell HX5.out 4).trans rfl
  have x5 : w5.cell? ⟨w.heap.size, 5, none⟩ = some (.string ⟨#[]⟩) := (blk_cell HX5.out 5).trans rfl
  have x6 : w5.cell? ⟨w.heap.size, 6, none⟩ = some (.string ⟨#[]⟩) := (blk_cell HX5.out 6).trans rfl
  have x7 : w5.cell? ⟨w.heap.size, 7, none⟩ = some (.bool false) := (blk_cell HX5.out 7).trans rfl
  have x8 : w5.cell? ⟨w.heap.size, 8, none⟩ = some (.bool false) := (blk_cell HX5.out 8).trans rfl
  have x9 : w5.cell? ⟨w.heap.size, 9, none⟩ = some (.slice none 0 0) := (blk_cell HX5.out 9).trans rfl
  have y0 : w5.cell? ⟨w.heap.size + 1, 0, none⟩ = some (.string ⟨#[]⟩) := (blk_cell HY5.out 0).trans rfl
  have y1 : w5.cell? ⟨w.heap.size + 1, 1, none⟩ = some (.string ⟨#[]⟩) := (blk_cell HY5.out 1).trans rfl
  have y2 : w5.cell? ⟨w.heap.size + 1, 2, none⟩ = some (.string ⟨#[]⟩) := (blk_cell HY5.out 2).trans rfl
  have y3 : w5.cell? ⟨w.heap.size + 1, 3, none⟩ = some (.string ⟨#[]⟩) := (blk_cell HY5.out 3).trans rfl
  have y4 : w5.cell? ⟨w.heap.size + 1, 4, none⟩ = some (.string ⟨#[]⟩) := (blk_cell HY5.out 4).trans rfl
  have y5 : w5.cell? ⟨w.heap.size + 1, 5, none⟩ = some (.string ⟨#[]⟩) := (blk_cell HY5.out 5).trans rfl
  have y6 : w5.cell? ⟨w.heap.size + 1, 6, none⟩ = some (.string ⟨#[]⟩) := (blk_cell HY5.out 6).trans rfl
  have y7 : w5.cell? ⟨w.heap.size + 1, 7, none⟩ = some (.bool false) := (blk_cell HY5.out 7).trans rfl
  have y8 : w5.cell? ⟨w.heap.size + 1, 8, none⟩ = some (.bool false) := (blk_cell HY5.out 8).trans rfl
  have y9 : w5.cell? ⟨w.heap.size + 1, 9, none⟩ = some (.int .i64 0) := (blk_cell HY5.out 9).trans rfl
  have r0 : w5.cell? ⟨w2.heap.size, 0, none⟩ = some (.string ⟨#[100, 101]⟩) := (blk_cell HR5.out 0).trans rfl
  have r1 : w5.cell? ⟨w2.heap.size, 1, none⟩ = some (.string ⟨#[44]⟩) := (blk_cell HR5.out 1).trans rfl
  have r2 : w5.cell? ⟨w2.heap.size, 2, none⟩ = some (.string ⟨#[46]⟩) := (blk_cell HR5.out 2).trans rfl
  have r3 : w5.cell? ⟨w2.heap.size, 3, none⟩ = some (.string ⟨#[59]⟩) := (blk_cell HR5.out 3).trans rfl
  have r4 : w5.cell? ⟨w2.heap.size, 4, none⟩ = some (.string ⟨#[45]⟩) := (blk_cell HR5.out 4).trans rfl
  have r5 : w5.cell? ⟨w2.heap.size, 5, none⟩ = some (.string ⟨#[37]⟩) := (blk_cell HR5.out 5).trans rfl
  have r6 : w5.cell? ⟨w2.heap.size, 6, none⟩ = some (.string ⟨#[226, 130, 172]⟩) := (blk_cell HR5.out 6).trans rfl
  have r7 : w5.cell? ⟨w2.heap.size, 7, none⟩ = some (.bool false) := (blk_cell HR5.out 7).trans rfl
  have r8 : w5.cell? ⟨w2.heap.size, 8, none⟩ = some (.bool true) := (blk_cell HR5.out 8).trans rfl
  have r9 : w5.cell? ⟨w2.heap.size, 9, none⟩ = some (.int .i64 3) := (blk_cell HR5.out 9).trans rfl
  have l0 : w5.cell? ⟨w4.heap.size, 0, none⟩ = some (.string ⟨#[100, 101]⟩) := (blk_cell HL5.out 0).trans rfl
  have l1 : w5.cell? ⟨w4.heap.size, 1, none⟩ = some (.string ⟨#[44]⟩) := (blk_cell HL5.out 1).trans rfl
  have l2 : w5.cell? ⟨w4.heap.size, 2, none⟩ = some (.string ⟨#[46]⟩) := (blk_cell HL5.out 2).trans rfl
  have l3 : w5.cell? ⟨w4.heap.size, 3, none⟩ = some (.string ⟨#[59]⟩) := (blk_cell HL5.out 3).trans rfl
  have l4 : w5.cell? ⟨w4.heap.size, 4, none⟩ = some (.string ⟨#[45]⟩) := (blk_cell HL5.out 4).trans rfl
  have l5 : w5.cell? ⟨w4.heap.size, 5, none⟩ = some (.string ⟨#[37]⟩) := (blk_cell HL5.out 5).trans rfl
  have l6 : w5.cell? ⟨w4.heap.size, 6, none⟩ = some (.string ⟨#[226, 130, 172]⟩) := (blk_cell HL5.out 6).trans rfl
  have l7 : w5.cell? ⟨w4.heap.size, 7, none⟩ = some (.bool false) := (blk_cell HL5.out 7).trans rfl
  have l8 : w5.cell? ⟨w4.heap.size, 8, none⟩ = some (.bool true) := (blk_cell HL5.out 8).trans rfl
  have l9 : w5.cell? ⟨w4.heap.size, 9, none⟩ = some (.slice (some ⟨g, 0, none⟩) 1 1) := (blk_cell HL5.out 9).trans rfl
  have fx0 : w5.frozen? ⟨w.heap.size, 0, none⟩ = false := blk_frozen HX5.out 0
  have fx1 : w5.frozen? ⟨w.heap.size, 1, none⟩ = false := blk_frozen HX5.out 1
  have fx2 : w5.frozen? ⟨w.heap.size, 2, none⟩ = false := blk_frozen HX5.out 2
  have fx3 : w5.frozen? ⟨w.heap.size, 3, none⟩ = false := blk_frozen HX5.out 3
  have fx4 : w5.frozen? ⟨w.heap.size, 4, none⟩ = false := blk_frozen HX5.out 4
  have fx5 : w5.frozen? ⟨w.heap.size, 5, none⟩ = false := blk_frozen HX5.out 5
  have fx6 : w5.frozen? ⟨w.heap.size, 6, none⟩ = false := blk_frozen HX5.out 6
  have fx7 : w5.frozen? ⟨w.heap.size, 7, none⟩ = false := blk_frozen HX5.out 7
  have fx8 : w5.frozen? ⟨w.heap.size, 8, none⟩ = false := blk_frozen HX5.out 8
  have fx9 : w5.frozen? ⟨w.heap.size, 9, none⟩ = false := blk_frozen HX5.out 9
  have fy0 : w5.frozen? ⟨w.heap.size + 1, 0, none⟩ = false := blk_frozen HY5.out 0
  have fy1 : w5.frozen? ⟨w.heap.size + 1, 1, none⟩ = false := blk_frozen HY5.out 1
  have fy2 : w5.frozen? ⟨w.heap.size + 1, 2, none⟩ = false := blk_frozen HY5.out 2
  have fy3 : w5.frozen? ⟨w.heap.size + 1, 3, none⟩ = false := blk_frozen HY5.out 3
  have fy4 : w5.frozen? ⟨w.heap.size + 1, 4, none⟩ = false := blk_frozen HY5.out 4
  have fy5 : w5.frozen? ⟨w.heap.size + 1, 5, none⟩ = false := blk_frozen HY5.out 5
  have fy6 : w5.frozen? ⟨w.heap.size + 1, 6, none⟩ = false := blk_frozen HY5.out 6
  have fy7 : w5.frozen? ⟨w.heap.size + 1, 7, none⟩ = false := blk_frozen HY5.out 7
  have fy8 : w5.frozen? ⟨w.heap.size + 1, 8, none⟩ = false := blk_frozen HY5.out 8
  have fy9 : w5.frozen? ⟨w.heap.size + 1, 9, none⟩ = false := blk_frozen HY5.out 9
  obtain ⟨hs1, hs2⟩ := HS4.out
  clear HS4
  go_region_held3 (fun w' => w'.cell? ⟨w4.heap.size, 0, none⟩ = some (.string ⟨#[100, 101]⟩) ∧ w'.cell? ⟨w4.heap.size, 1, none⟩ = some (.string ⟨#[44]⟩) ∧ w'.cell? ⟨w4.heap.size, 2, none⟩ = some (.string ⟨#[46]⟩) ∧ w'.cell? ⟨w4.heap.size, 3, none⟩ = some (.string ⟨#[59]⟩) ∧ w'.cell? ⟨w4.heap.size, 4, none⟩ = some (.string ⟨#[45]⟩) ∧ w'.cell? ⟨w4.heap.size, 5, none⟩ = some (.string ⟨#[37]⟩) ∧ w'.cell? ⟨w4.heap.size, 6, none⟩ = some (.string ⟨#[226, 130, 172]⟩) ∧ w'.cell? ⟨w4.heap.size, 7, none⟩ = some (.bool false) ∧ w'.cell? ⟨w4.heap.size, 8, none⟩ = some (.bool true) ∧ w'.cell? ⟨w4.heap.size, 9, none⟩ = some (.slice (some ⟨g, 0, none⟩) 1 1) ∧ w'.cell? ⟨w2.heap.size, 0, none⟩ = some (.string ⟨#[100, 101]⟩) ∧ w'.cell? ⟨w2.heap.size, 1, none⟩ = some (.string ⟨#[44]⟩) ∧ w'.cell? ⟨w2.heap.size, 2, none⟩ = some (.string ⟨#[46]⟩) ∧ w'.cell? ⟨w2.heap.size, 3, none⟩ = some (.string ⟨#[59]⟩) ∧ w'.cell? ⟨w2.heap.size, 4, none⟩ = some (.string ⟨#[45]⟩) ∧ w'.cell? ⟨w2.heap.size, 5, none⟩ = some (.string ⟨#[37]⟩) ∧ w'.cell? ⟨w2.heap.size, 6, none⟩ = some (.string ⟨#[226, 130, 172]⟩) ∧ w'.cell? ⟨w2.heap.size, 7, none⟩ = some (.bool false) ∧ w'.cell? ⟨w2.heap.size, 8, none⟩ = some (.bool true) ∧ w'.cell? ⟨w2.heap.size, 9, none⟩ = some (.int .i64 3))
    ((refine ⟨?_, ?_, ?_, ?_, ?_, ?_, ?_, ?_, ?_, ?_, ?_, ?_, ?_, ?_, ?_, ?_, ?_, ?_, ?_, ?_⟩ <;> ((with_reducible repeat (first | refine keep_drew ?_ | refine keep_set _ (by simp only [ne_eq]; omega) ?_)); assumption))) (fail)
  go_wp2
  have hg := HGG.out
  exact bodyPost_ret (results_cc rfl _ _ w.heap.size (w.heap.size + 1) 25 27 #[.string ⟨#[100, 101]⟩, .string ⟨#[44]⟩, .string ⟨#[46]⟩, .string ⟨#[59]⟩, .string ⟨#[45]⟩, .string ⟨#[37]⟩, .string ⟨#[226, 130, 172]⟩, .bool false, .bool true, .slice (some ⟨g, 0, none⟩) 1 1] #[.string ⟨#[100, 101]⟩, .string ⟨#[44]⟩, .string ⟨#[46]⟩, .string ⟨#[59]⟩, .string ⟨#[45]⟩, .string ⟨#[37]⟩, .string ⟨#[226, 130, 172]⟩, .bool false, .bool true, .int .i64 3] (0, 0) (0, 0) _ _ rfl (blk_drew (far10 (set10 HX5.out _ _ _ _ _ _ _ _ _ _) (by omega) _ _ _ _ _ _ _ _ _ _)) Tryd.underlying25 rfl (by kernel_rfl) rfl (blk_drew (set10 (far10 HY5.out (by omega) _ _ _ _ _ _ _ _ _ _) _ _ _ _ _ _ _ _ _ _)) Tryd.underlying27 rfl (by kernel_rfl)) rfl ⟨_, rfl, ⟨g, rfl, by omega, blk_drew (far10 (far10 HG5.out (by omega) _ _ _ _ _ _ _ _ _ _) (by omega) _ _ _ _ _ _ _ _ _ _)⟩, (below10 (below10 HB5.out (Nat.le_refl _) _ _ _ _ _ _ _ _ _ _) (by omega) _ _ _ _ _ _ _ _ _ _).drew⟩
end Go.Proofs.YtmbhjogohfcjgaaDoor.L
