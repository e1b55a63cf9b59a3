/- Plain law: the statement PatternShapes. -/
import Derived.Test.YtmbhjogohfcjgaaDoorPm7
import Derived.Test.YtmbhjogohfcjgaaDoorP15
namespace Go.Proofs.YtmbhjogohfcjgaaDoor.P
open Go.RowKit Go.Proofs.YtmbhjogohfcjgaaDoorW.PrintWords Go.Proofs.YtmbhjogohfcjgaaDoorW.PrintMore
set_option linter.unusedVariables false
set_option linter.unusedSimpArgs false
theorem shapes_l0 (L : List S62) (hn : L.length ≤ 8) (hS : ∀ s ∈ L, s.f0.length ≤ 300) : ∀ (d j k : Nat), L.length - j = d → j ≤ L.length → d + 1000 < k → tabardlaw13_PatternShapes.l0 k (L.map scv) j L = some true
 | 0, j, k, hd, hj, hk => by
  obtain ⟨k, rfl⟩ : ∃ k', k = k' + 1 := ⟨k - 1, by omega⟩
  obtain ⟨r, h1, h2, _⟩ := right_same L 300 k (by omega) hS (by omega)
  rw [tabardlaw13_PatternShapes.l0, List.length_map, if_neg (by omega : ¬ (j : Int) < (L.length : Int)), bs_ h1, bs_ h2]
  cases r <;> rfl
 | d + 1, j, k, hd, hj, hk => by
  obtain ⟨k, rfl⟩ : ∃ k', k = k' + 1 := ⟨k - 1, by omega⟩
  have hlt : j < L.length := by omega
  have e1 : ((j : Int) + 1) = ((j + 1 : Nat) : Int) := rfl
  have hsl := hS _ (List.getElem_mem hlt)
  have hp : pattern_Shape.f (L[j]).f0 (L[j]).f1 (L[j]).f2 = some (shapeOf (L[j]).f0 (L[j]).f1 (L[j]).f2) := by unfold pattern_Shape.f; rw [if_pos (by omega)]
  have hr : rd_T66 (L.map scv) (j : Int) = scv L[j] := by rw [rd_scv, rds_get hlt]
  have hs : tabardref13_Shape.f k (scv L[j]).f0 (scv L[j]).f1 (scv L[j]).f2 = some (shapeOf (L[j]).f0 (L[j]).f1 (L[j]).f2) := shape_f (L[j]).f0 (L[j]).f1 (L[j]).f2 k (by omega) (by omega)
  rw [tabardlaw13_PatternShapes.l0, List.length_map, if_pos (by omega : (j : Int) < (L.length : Int)), if_pos (by omega : (0 : Int) ≤ (j : Int)), if_pos (by omega : (j : Int) < (L.length : Int)), rds_get hlt, hr, bs_ hp, bs_ hs, if_pos rfl, w64a (n := (j : Int) + 1) (by omega), e1]
  exact shapes_l0 L hn hS d (j + 1) k (by omega) (by omega) (by omega)
set_option maxRecDepth 100000 in
theorem shapes_true (L : List S62) : tabardlaw13_PatternShapes.f 6000 L = some true := by
 obtain ⟨b, hb, hB⟩ := small_f L
 unfold tabardlaw13_PatternShapes.f
 rw [bs_ (show tabardlaw13_shown.f = some true from rfl), bs_ hb, if_pos rfl, tabardlaw13_PatternShapes.j0]
 cases b with
 | false => rw [if_pos (show (!false) = true from rfl)]
 | true =>
  obtain ⟨hn, hS⟩ := hB rfl
  have hs := sections_f L 300 5999 (by omega) hS (by omega) (by omega)
  rw [if_neg (show ¬ (!true) = true by simp), bs_ hs]
  exact shapes_l0 L hn hS L.length 0 5999 (by omega) (by omega) (by omega)
end Go.Proofs.YtmbhjogohfcjgaaDoor.P
