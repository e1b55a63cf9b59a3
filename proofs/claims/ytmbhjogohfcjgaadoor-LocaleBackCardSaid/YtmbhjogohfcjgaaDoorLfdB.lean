/- Walks of locale.Find and Names, printed by wip/tools/genfind.py. -/
import Derived.Test.YtmbhjogohfcjgaaDoorLfd0
import Derived.Deep.RegionHeld3
namespace Go.Proofs.YtmbhjogohfcjgaaDoor.L
open Go.RowKit

set_option maxRecDepth 100000 in
set_option maxHeartbeats 4000000 in
theorem find_en (w : World) (h : GL w) : Calls Tryd.prog 26 #[.string ⟨#[101, 110]⟩] w (FindSays w ⟨#[101, 110]⟩ ⟨#[46]⟩ ⟨#[44]⟩ ⟨#[44]⟩ ⟨#[45]⟩ ⟨#[37]⟩ ⟨#[36]⟩ true false [3]) := by
  have hs := h.size
  have a0 : ∀ o, (w.alloc o).cell? ⟨0, 0, none⟩ = some (.string ⟨#[99, 104]⟩) := fun o => keep_alloc o h.n0
  have a1 : ∀ o, (w.alloc o).cell? ⟨0, 1, none⟩ = some (.string ⟨#[100, 101]⟩) := fun o => keep_alloc o h.n1
  have a2 : ∀ o, (w.alloc o).cell? ⟨0, 2, none⟩ = some (.string ⟨#[101, 110]⟩) := fun o => keep_alloc o h.n2
  have s0 := h.s2_0
  have s1 := h.s2_1
  have s2 := h.s2_2
  have s3 := h.s2_3
  have s4 := h.s2_4
  clear h
  go_enter Tryd.func26, Tryd.ntmps26
  go_wp2_with fail
  refine wp_loop_rounds 3 ?_
  iterate 3 (rw [rounds_succ]; go_wp2_with fail)
  go_region_held3 (fun w' => w'.cell? ⟨1, 10, none⟩ = some (.string ⟨#[46]⟩) ∧ w'.cell? ⟨1, 11, none⟩ = some (.string ⟨#[44]⟩) ∧ w'.cell? ⟨1, 12, none⟩ = some (.string ⟨#[44]⟩) ∧ w'.cell? ⟨1, 13, none⟩ = some (.string ⟨#[45]⟩) ∧ w'.cell? ⟨1, 14, none⟩ = some (.string ⟨#[36]⟩))
    ((refine ⟨?_, ?_, ?_, ?_, ?_⟩ <;> ((with_reducible repeat (first | refine keep_drew ?_ | refine keep_alloc _ ?_)); assumption))) (fail)
  all_goals go_wp2
  all_goals first | (exact bodyPost_ret (v := .tuple #[.agg #[.string ⟨#[101, 110]⟩, .string ⟨#[46]⟩, .string ⟨#[44]⟩, .string ⟨#[44]⟩, .string ⟨#[45]⟩, .string ⟨#[37]⟩, .string ⟨#[36]⟩, .bool true, .bool false, .slice (some ⟨w.heap.size + 1 + 1, 0, none⟩) 1 1], .int .i64 0]) (by simp [results, Tryd.results26, go_sem]) rfl ⟨_, rfl, ⟨_, rfl, by omega, heap_at3 w _ _ _⟩, below_at3 w _ _ _⟩) | (exact bodyPost_ret (v := .tuple #[.agg #[.string ⟨#[101, 110]⟩, .string ⟨#[46]⟩, .string ⟨#[44]⟩, .string ⟨#[44]⟩, .string ⟨#[45]⟩, .string ⟨#[37]⟩, .string ⟨#[36]⟩, .bool true, .bool false, .slice (some ⟨w.heap.size + 1, 0, none⟩) 1 1], .int .i64 0]) (by simp [results, Tryd.results26, go_sem]) rfl ⟨_, rfl, ⟨_, rfl, by omega, heap_at2 w _ _ _⟩, below_at3 w _ _ _⟩)

set_option maxRecDepth 100000 in
set_option maxHeartbeats 4000000 in
theorem find_fr (w : World) (h : GL w) : Calls Tryd.prog 26 #[.string ⟨#[102, 114]⟩] w (FindSays w ⟨#[102, 114]⟩ ⟨#[44]⟩ ⟨#[226, 128, 175]⟩ ⟨#[59]⟩ ⟨#[45]⟩ ⟨#[37]⟩ ⟨#[226, 130, 172]⟩ false true [3]) := by
  have hs := h.size
  have a0 : ∀ o, (w.alloc o).cell? ⟨0, 0, none⟩ = some (.string ⟨#[99, 104]⟩) := fun o => keep_alloc o h.n0
  have a1 : ∀ o, (w.alloc o).cell? ⟨0, 1, none⟩ = some (.string ⟨#[100, 101]⟩) := fun o => keep_alloc o h.n1
  have a2 : ∀ o, (w.alloc o).cell? ⟨0, 2, none⟩ = some (.string ⟨#[101, 110]⟩) := fun o => keep_alloc o h.n2
  have a3 : ∀ o, (w.alloc o).cell? ⟨0, 3, none⟩ = some (.string ⟨#[102, 114]⟩) := fun o => keep_alloc o h.n3
  have s0 := h.s3_0
  have s1 := h.s3_1
  have s2 := h.s3_2
  have s3 := h.s3_3
  have s4 := h.s3_4
  clear h
  go_enter Tryd.func26, Tryd.ntmps26
  go_wp2_with fail
  refine wp_loop_rounds 4 ?_
  iterate 4 (rw [rounds_succ]; go_wp2_with fail)
  go_region_held3 (fun w' => w'.cell? ⟨1, 15, none⟩ = some (.string ⟨#[44]⟩) ∧ w'.cell? ⟨1, 16, none⟩ = some (.string ⟨#[226, 128, 175]⟩) ∧ w'.cell? ⟨1, 17, none⟩ = some (.string ⟨#[59]⟩) ∧ w'.cell? ⟨1, 18, none⟩ = some (.string ⟨#[45]⟩) ∧ w'.cell? ⟨1, 19, none⟩ = some (.string ⟨#[226, 130, 172]⟩))
    ((refine ⟨?_, ?_, ?_, ?_, ?_⟩ <;> ((with_reducible repeat (first | refine keep_drew ?_ | refine keep_alloc _ ?_)); assumption))) (fail)
  all_goals go_wp2
  all_goals first | (exact bodyPost_ret (v := .tuple #[.agg #[.string ⟨#[102, 114]⟩, .string ⟨#[44]⟩, .string ⟨#[226, 128, 175]⟩, .string ⟨#[59]⟩, .string ⟨#[45]⟩, .string ⟨#[37]⟩, .string ⟨#[226, 130, 172]⟩, .bool false, .bool true, .slice (some ⟨w.heap.size + 1 + 1, 0, none⟩) 1 1], .int .i64 0]) (by simp [results, Tryd.results26, go_sem]) rfl ⟨_, rfl, ⟨_, rfl, by omega, heap_at3 w _ _ _⟩, below_at3 w _ _ _⟩) | (exact bodyPost_ret (v := .tuple #[.agg #[.string ⟨#[102, 114]⟩, .string ⟨#[44]⟩, .string ⟨#[226, 128, 175]⟩, .string ⟨#[59]⟩, .string ⟨#[45]⟩, .string ⟨#[37]⟩, .string ⟨#[226, 130, 172]⟩, .bool false, .bool true, .slice (some ⟨w.heap.size + 1, 0, none⟩) 1 1], .int .i64 0]) (by simp [results, Tryd.results26, go_sem]) rfl ⟨_, rfl, ⟨_, rfl, by omega, heap_at2 w _ _ _⟩, below_at3 w _ _ _⟩)

end Go.Proofs.YtmbhjogohfcjgaaDoor.L
