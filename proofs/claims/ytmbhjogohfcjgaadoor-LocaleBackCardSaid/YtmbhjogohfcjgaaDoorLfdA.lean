/- Walks of locale.Find and Names, printed by wip/tools/genfind.py. -/
import Derived.Test.YtmbhjogohfcjgaaDoorLfd0
import Derived.Deep.RegionHeld3
namespace Go.Proofs.YtmbhjogohfcjgaaDoor.L
open Go.RowKit

set_option maxRecDepth 100000 in
set_option maxHeartbeats 4000000 in
theorem find_ch (w : World) (h : GL w) : Calls Tryd.prog 26 #[.string ⟨#[99, 104]⟩] w (FindSays w ⟨#[99, 104]⟩ ⟨#[46]⟩ ⟨#[226, 128, 153]⟩ ⟨#[59]⟩ ⟨#[45]⟩ ⟨#[37]⟩ ⟨#[67, 72, 70]⟩ true true [3]) := by
  have hs := h.size
  have a0 : ∀ o, (w.alloc o).cell? ⟨0, 0, none⟩ = some (.string ⟨#[99, 104]⟩) := fun o => keep_alloc o h.n0
  have s0 := h.s0_0
  have s1 := h.s0_1
  have s2 := h.s0_2
  have s3 := h.s0_3
  have s4 := h.s0_4
  clear h
  go_enter Tryd.func26, Tryd.ntmps26
  go_wp2_with fail
  refine wp_loop_rounds 1 ?_
  iterate 1 (rw [rounds_succ]; go_wp2_with fail)
  go_region_held3 (fun w' => w'.cell? ⟨1, 0, none⟩ = some (.string ⟨#[46]⟩) ∧ w'.cell? ⟨1, 1, none⟩ = some (.string ⟨#[226, 128, 153]⟩) ∧ w'.cell? ⟨1, 2, none⟩ = some (.string ⟨#[59]⟩) ∧ w'.cell? ⟨1, 3, none⟩ = some (.string ⟨#[45]⟩) ∧ w'.cell? ⟨1, 4, none⟩ = some (.string ⟨#[67, 72, 70]⟩))
    ((refine ⟨?_, ?_, ?_, ?_, ?_⟩ <;> ((with_reducible repeat (first | refine keep_drew ?_ | refine keep_alloc _ ?_)); assumption))) (fail)
  all_goals go_wp2
  all_goals first | (exact bodyPost_ret (v := .tuple #[.agg #[.string ⟨#[99, 104]⟩, .string ⟨#[46]⟩, .string ⟨#[226, 128, 153]⟩, .string ⟨#[59]⟩, .string ⟨#[45]⟩, .string ⟨#[37]⟩, .string ⟨#[67, 72, 70]⟩, .bool true, .bool true, .slice (some ⟨w.heap.size + 1 + 1, 0, none⟩) 1 1], .int .i64 0]) (by simp [results, Tryd.results26, go_sem]) rfl ⟨_, rfl, ⟨_, rfl, by omega, heap_at3 w _ _ _⟩, below_at3 w _ _ _⟩) | (exact bodyPost_ret (v := .tuple #[.agg #[.string ⟨#[99, 104]⟩, .string ⟨#[46]⟩, .string ⟨#[226, 128, 153]⟩, .string ⟨#[59]⟩, .string ⟨#[45]⟩, .string ⟨#[37]⟩, .string ⟨#[67, 72, 70]⟩, .bool true, .bool true, .slice (some ⟨w.heap.size + 1, 0, none⟩) 1 1], .int .i64 0]) (by simp [results, Tryd.results26, go_sem]) rfl ⟨_, rfl, ⟨_, rfl, by omega, heap_at2 w _ _ _⟩, below_at3 w _ _ _⟩)

set_option maxRecDepth 100000 in
set_option maxHeartbeats 4000000 in
theorem find_de (w : World) (h : GL w) : Calls Tryd.prog 26 #[.string ⟨#[100, 101]⟩] w (FindSays w ⟨#[100, 101]⟩ ⟨#[44]⟩ ⟨#[46]⟩ ⟨#[59]⟩ ⟨#[45]⟩ ⟨#[37]⟩ ⟨#[226, 130, 172]⟩ false true [3]) := by
  have hs := h.size
  have a0 : ∀ o, (w.alloc o).cell? ⟨0, 0, none⟩ = some (.string ⟨#[99, 104]⟩) := fun o => keep_alloc o h.n0
  have a1 : ∀ o, (w.alloc o).cell? ⟨0, 1, none⟩ = some (.string ⟨#[100, 101]⟩) := fun o => keep_alloc o h.n1
  have s0 := h.s1_0
  have s1 := h.s1_1
  have s2 := h.s1_2
  have s3 := h.s1_3
  have s4 := h.s1_4
  clear h
  go_enter Tryd.func26, Tryd.ntmps26
  go_wp2_with fail
  refine wp_loop_rounds 2 ?_
  iterate 2 (rw [rounds_succ]; go_wp2_with fail)
  go_region_held3 (fun w' => w'.cell? ⟨1, 5, none⟩ = some (.string ⟨#[44]⟩) ∧ w'.cell? ⟨1, 6, none⟩ = some (.string ⟨#[46]⟩) ∧ w'.cell? ⟨1, 7, none⟩ = some (.string ⟨#[59]⟩) ∧ w'.cell? ⟨1, 8, none⟩ = some (.string ⟨#[45]⟩) ∧ w'.cell? ⟨1, 9, none⟩ = some (.string ⟨#[226, 130, 172]⟩))
    ((refine ⟨?_, ?_, ?_, ?_, ?_⟩ <;> ((with_reducible repeat (first | refine keep_drew ?_ | refine keep_alloc _ ?_)); assumption))) (fail)
  all_goals go_wp2
  all_goals first | (exact bodyPost_ret (v := .tuple #[.agg #[.string ⟨#[100, 101]⟩, .string ⟨#[44]⟩, .string ⟨#[46]⟩, .string ⟨#[59]⟩, .string ⟨#[45]⟩, .string ⟨#[37]⟩, .string ⟨#[226, 130, 172]⟩, .bool false, .bool true, .slice (some ⟨w.heap.size + 1 + 1, 0, none⟩) 1 1], .int .i64 0]) (by simp [results, Tryd.results26, go_sem]) rfl ⟨_, rfl, ⟨_, rfl, by omega, heap_at3 w _ _ _⟩, below_at3 w _ _ _⟩) | (exact bodyPost_ret (v := .tuple #[.agg #[.string ⟨#[100, 101]⟩, .string ⟨#[44]⟩, .string ⟨#[46]⟩, .string ⟨#[59]⟩, .string ⟨#[45]⟩, .string ⟨#[37]⟩, .string ⟨#[226, 130, 172]⟩, .bool false, .bool true, .slice (some ⟨w.heap.size + 1, 0, none⟩) 1 1], .int .i64 0]) (by simp [results, Tryd.results26, go_sem]) rfl ⟨_, rfl, ⟨_, rfl, by omega, heap_at2 w _ _ _⟩, below_at3 w _ _ _⟩)

end Go.Proofs.YtmbhjogohfcjgaaDoor.L
