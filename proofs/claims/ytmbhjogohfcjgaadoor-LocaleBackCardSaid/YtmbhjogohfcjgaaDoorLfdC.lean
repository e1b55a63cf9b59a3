/- Walks of locale.Find and Names, printed by wip/tools/genfind.py. -/
import Derived.Test.YtmbhjogohfcjgaaDoorLfd0
import Derived.Deep.RegionHeld3
namespace Go.Proofs.YtmbhjogohfcjgaaDoor.L
open Go.RowKit

set_option maxRecDepth 100000 in
set_option maxHeartbeats 4000000 in
theorem find_hi (w : World) (h : GL w) : Calls Tryd.prog 26 #[.string ⟨#[104, 105]⟩] w (FindSays w ⟨#[104, 105]⟩ ⟨#[46]⟩ ⟨#[44]⟩ ⟨#[44]⟩ ⟨#[45]⟩ ⟨#[37]⟩ ⟨#[226, 130, 185]⟩ true false [3, 2]) := by
  have hs := h.size
  have a0 : ∀ o, (w.alloc o).cell? ⟨0, 0, none⟩ = some (.string ⟨#[99, 104]⟩) := fun o => keep_alloc o h.n0
  have a1 : ∀ o, (w.alloc o).cell? ⟨0, 1, none⟩ = some (.string ⟨#[100, 101]⟩) := fun o => keep_alloc o h.n1
  have a2 : ∀ o, (w.alloc o).cell? ⟨0, 2, none⟩ = some (.string ⟨#[101, 110]⟩) := fun o => keep_alloc o h.n2
  have a3 : ∀ o, (w.alloc o).cell? ⟨0, 3, none⟩ = some (.string ⟨#[102, 114]⟩) := fun o => keep_alloc o h.n3
  have a4 : ∀ o, (w.alloc o).cell? ⟨0, 4, none⟩ = some (.string ⟨#[104, 105]⟩) := fun o => keep_alloc o h.n4
  have s0 := h.s4_0
  have s1 := h.s4_1
  have s2 := h.s4_2
  have s3 := h.s4_3
  have s4 := h.s4_4
  clear h
  go_enter Tryd.func26, Tryd.ntmps26
  go_wp2_with fail
  refine wp_loop_rounds 5 ?_
  iterate 5 (rw [rounds_succ]; go_wp2_with fail)
  go_region_held3 (fun w' => w'.cell? ⟨1, 20, none⟩ = some (.string ⟨#[46]⟩) ∧ w'.cell? ⟨1, 21, none⟩ = some (.string ⟨#[44]⟩) ∧ w'.cell? ⟨1, 22, none⟩ = some (.string ⟨#[44]⟩) ∧ w'.cell? ⟨1, 23, none⟩ = some (.string ⟨#[45]⟩) ∧ w'.cell? ⟨1, 24, none⟩ = some (.string ⟨#[226, 130, 185]⟩))
    ((refine ⟨?_, ?_, ?_, ?_, ?_⟩ <;> ((with_reducible repeat (first | refine keep_drew ?_ | refine keep_alloc _ ?_)); assumption))) (fail)
  all_goals go_wp2
  all_goals first | (exact bodyPost_ret (v := .tuple #[.agg #[.string ⟨#[104, 105]⟩, .string ⟨#[46]⟩, .string ⟨#[44]⟩, .string ⟨#[44]⟩, .string ⟨#[45]⟩, .string ⟨#[37]⟩, .string ⟨#[226, 130, 185]⟩, .bool true, .bool false, .slice (some ⟨w.heap.size + 1 + 1 + 1, 0, none⟩) 2 2], .int .i64 0]) (by simp [results, Tryd.results26, go_sem]) rfl ⟨_, rfl, ⟨_, rfl, by omega, heap_at4 w _ _ _ _⟩, below_at4 w _ _ _ _⟩) | (exact bodyPost_ret (v := .tuple #[.agg #[.string ⟨#[104, 105]⟩, .string ⟨#[46]⟩, .string ⟨#[44]⟩, .string ⟨#[44]⟩, .string ⟨#[45]⟩, .string ⟨#[37]⟩, .string ⟨#[226, 130, 185]⟩, .bool true, .bool false, .slice (some ⟨w.heap.size + 1 + 1 + 1, 0, none⟩) 2 2], .int .i64 0]) (by simp [results, Tryd.results26, go_sem]) rfl ⟨_, rfl, ⟨_, rfl, by omega, heap_at4 w _ _ _ _⟩, below_at4 w _ _ _ _⟩)

set_option maxRecDepth 100000 in
set_option maxHeartbeats 4000000 in
theorem find_sv (w : World) (h : GL w) : Calls Tryd.prog 26 #[.string ⟨#[115, 118]⟩] w (FindSays w ⟨#[115, 118]⟩ ⟨#[44]⟩ ⟨#[194, 160]⟩ ⟨#[59]⟩ ⟨#[226, 136, 146]⟩ ⟨#[37]⟩ ⟨#[107, 114]⟩ false true [3]) := by
  have hs := h.size
  have a0 : ∀ o, (w.alloc o).cell? ⟨0, 0, none⟩ = some (.string ⟨#[99, 104]⟩) := fun o => keep_alloc o h.n0
  have a1 : ∀ o, (w.alloc o).cell? ⟨0, 1, none⟩ = some (.string ⟨#[100, 101]⟩) := fun o => keep_alloc o h.n1
  have a2 : ∀ o, (w.alloc o).cell? ⟨0, 2, none⟩ = some (.string ⟨#[101, 110]⟩) := fun o => keep_alloc o h.n2
  have a3 : ∀ o, (w.alloc o).cell? ⟨0, 3, none⟩ = some (.string ⟨#[102, 114]⟩) := fun o => keep_alloc o h.n3
  have a4 : ∀ o, (w.alloc o).cell? ⟨0, 4, none⟩ = some (.string ⟨#[104, 105]⟩) := fun o => keep_alloc o h.n4
  have a5 : ∀ o, (w.alloc o).cell? ⟨0, 5, none⟩ = some (.string ⟨#[115, 118]⟩) := fun o => keep_alloc o h.n5
  have s0 := h.s5_0
  have s1 := h.s5_1
  have s2 := h.s5_2
  have s3 := h.s5_3
  have s4 := h.s5_4
  clear h
  go_enter Tryd.func26, Tryd.ntmps26
  go_wp2_with fail
  refine wp_loop_rounds 6 ?_
  iterate 6 (rw [rounds_succ]; go_wp2_with fail)
  go_region_held3 (fun w' => w'.cell? ⟨1, 25, none⟩ = some (.string ⟨#[44]⟩) ∧ w'.cell? ⟨1, 26, none⟩ = some (.string ⟨#[194, 160]⟩) ∧ w'.cell? ⟨1, 27, none⟩ = some (.string ⟨#[59]⟩) ∧ w'.cell? ⟨1, 28, none⟩ = some (.string ⟨#[226, 136, 146]⟩) ∧ w'.cell? ⟨1, 29, none⟩ = some (.string ⟨#[107, 114]⟩))
    ((refine ⟨?_, ?_, ?_, ?_, ?_⟩ <;> ((with_reducible repeat (first | refine keep_drew ?_ | refine keep_alloc _ ?_)); assumption))) (fail)
  all_goals go_wp2
  all_goals first | (exact bodyPost_ret (v := .tuple #[.agg #[.string ⟨#[115, 118]⟩, .string ⟨#[44]⟩, .string ⟨#[194, 160]⟩, .string ⟨#[59]⟩, .string ⟨#[226, 136, 146]⟩, .string ⟨#[37]⟩, .string ⟨#[107, 114]⟩, .bool false, .bool true, .slice (some ⟨w.heap.size + 1 + 1, 0, none⟩) 1 1], .int .i64 0]) (by simp [results, Tryd.results26, go_sem]) rfl ⟨_, rfl, ⟨_, rfl, by omega, heap_at3 w _ _ _⟩, below_at3 w _ _ _⟩) | (exact bodyPost_ret (v := .tuple #[.agg #[.string ⟨#[115, 118]⟩, .string ⟨#[44]⟩, .string ⟨#[194, 160]⟩, .string ⟨#[59]⟩, .string ⟨#[226, 136, 146]⟩, .string ⟨#[37]⟩, .string ⟨#[107, 114]⟩, .bool false, .bool true, .slice (some ⟨w.heap.size + 1, 0, none⟩) 1 1], .int .i64 0]) (by simp [results, Tryd.results26, go_sem]) rfl ⟨_, rfl, ⟨_, rfl, by omega, heap_at2 w _ _ _⟩, below_at3 w _ _ _⟩)

end Go.Proofs.YtmbhjogohfcjgaaDoor.L
