/- Walks of locale.Find and Names, printed by wip/tools/genfind.py. -/
import Derived.Test.YtmbhjogohfcjgaaDoorLfd0
import Derived.Deep.RegionHeld3
namespace Go.Proofs.YtmbhjogohfcjgaaDoor.L
open Go.RowKit

set_option maxRecDepth 100000 in
set_option maxHeartbeats 4000000 in
theorem find_none (s : ByteArray) (w : World) (h : GL w) (x0 : (([99, 104] : List UInt8) == s.toList) = false) (x1 : (([100, 101] : List UInt8) == s.toList) = false) (x2 : (([101, 110] : List UInt8) == s.toList) = false) (x3 : (([102, 114] : List UInt8) == s.toList) = false) (x4 : (([104, 105] : List UInt8) == s.toList) = false) (x5 : (([115, 118] : List UInt8) == s.toList) = false) :
    Calls Tryd.prog 26 #[.string s] w fun e w' => e = .returned (.tuple #[.agg #[.string ⟨#[]⟩, .string ⟨#[]⟩, .string ⟨#[]⟩, .string ⟨#[]⟩, .string ⟨#[]⟩, .string ⟨#[]⟩, .string ⟨#[]⟩, .bool false, .bool false, .slice none 0 0], .int .i64 8]) ∧ Below w.heap.size w w' := by
  have hs := h.size
  have a0 : ∀ o, (w.alloc o).cell? ⟨0, 0, none⟩ = some (.string ⟨#[99, 104]⟩) := fun o => keep_alloc o h.n0
  have a1 : ∀ o, (w.alloc o).cell? ⟨0, 1, none⟩ = some (.string ⟨#[100, 101]⟩) := fun o => keep_alloc o h.n1
  have a2 : ∀ o, (w.alloc o).cell? ⟨0, 2, none⟩ = some (.string ⟨#[101, 110]⟩) := fun o => keep_alloc o h.n2
  have a3 : ∀ o, (w.alloc o).cell? ⟨0, 3, none⟩ = some (.string ⟨#[102, 114]⟩) := fun o => keep_alloc o h.n3
  have a4 : ∀ o, (w.alloc o).cell? ⟨0, 4, none⟩ = some (.string ⟨#[104, 105]⟩) := fun o => keep_alloc o h.n4
  have a5 : ∀ o, (w.alloc o).cell? ⟨0, 5, none⟩ = some (.string ⟨#[115, 118]⟩) := fun o => keep_alloc o h.n5
  clear h
  go_enter Tryd.func26, Tryd.ntmps26
  go_wp2_with fail
  refine wp_loop_rounds 7 ?_
  iterate 7 (rw [rounds_succ]; go_wp2_with fail)
  exact bodyPost_ret (v := .tuple #[.agg #[.string ⟨#[]⟩, .string ⟨#[]⟩, .string ⟨#[]⟩, .string ⟨#[]⟩, .string ⟨#[]⟩, .string ⟨#[]⟩, .string ⟨#[]⟩, .bool false, .bool false, .slice none 0 0], .int .i64 8]) (by simp [results, Tryd.results26, go_sem]) rfl ⟨rfl, (Below.refl _ _).alloc (Nat.le_refl _) _⟩

set_option maxRecDepth 100000 in
set_option maxHeartbeats 4000000 in
theorem names_walk (w : World) (h : GL w) : Calls Tryd.prog 24 #[] w fun e w' => e = .returned (.slice (some ⟨w.heap.size, 0, none⟩) 6 6) ∧ w'.heap[w.heap.size]? = some (.cells #[.string ⟨#[99, 104]⟩, .string ⟨#[100, 101]⟩, .string ⟨#[101, 110]⟩, .string ⟨#[102, 114]⟩, .string ⟨#[104, 105]⟩, .string ⟨#[115, 118]⟩] 82 (0, 0)) ∧ Below w.heap.size w w' := by
  have hs := h.size
  have a0 := h.n0
  have a1 := h.n1
  have a2 := h.n2
  have a3 := h.n3
  have a4 := h.n4
  have a5 := h.n5
  clear h
  go_enter Tryd.func24, Tryd.ntmps24
  go_wp2_with fail
  go_ret
  exact ⟨rfl, heap_alloc_new w _, (Below.refl _ _).alloc (Nat.le_refl _) _⟩

end Go.Proofs.YtmbhjogohfcjgaaDoor.L
