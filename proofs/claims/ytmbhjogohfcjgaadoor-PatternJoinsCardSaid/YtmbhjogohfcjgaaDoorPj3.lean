/- The walk of PatternJoins: the ways that end ahead of the longer text. -/
import Derived.Test.YtmbhjogohfcjgaaDoorPj2
import Derived.Test.YtmbhjogohfcjgaaDoorPn
import Derived.Test.YtmbhjogohfcjgaaDoorP8
import Derived.Test.YtmbhjogohfcjgaaDoorP9
import Derived.Test.YtmbhjogohfcjgaaDoorWcn
namespace Go.Proofs.YtmbhjogohfcjgaaDoor.P
open Go.RowKit Go.Proofs.YtmbhjogohfcjgaaDoorW.PrintWords Go.Proofs.YtmbhjogohfcjgaaDoorW.PrintLast Go.Proofs.YtmbhjogohfcjgaaDoorW.PrintMore
set_option linter.unusedVariables false
set_option linter.unusedSimpArgs false

def JoinsEnd (W : World) (e : Ending) (w' : World) : Prop := e = .returned (.bool true) ∧ Below W.heap.size W w'
set_option maxRecDepth 100000 in
set_option maxHeartbeats 2000000 in
theorem joins_long (s t : ByteArray) (W : World) (hGL : GL W) (h : 490 < s.size ∨ 490 < t.size) : Calls Tryd.prog 9 #[.string s, .string t] W (JoinsEnd W) := by
  have HG := Aside0.mk hGL
  have HB0 := Aside0.mk (Below.refl W.heap.size W)
  clear hGL
  by_cases hs : 490 < s.size
  · have hs1 : decide (490 < (s.size : Int)) = true := decide_eq_true (by omega)
    clear hs h
    go_enter Tryd.func9, Tryd.ntmps9
    go_wp2_with (fail)
    (with_reducible refine (tabardlaw13_shown.calls true _ (HG.out.below HB0.out) rfl).mono ?_)
    rintro e w1 ⟨rfl, hb⟩
    have HB1 := Aside0.mk (HB0.out.trans (hb.mono HB0.out.size))
    clear hb
    go_wp2
    go_ret
    exact ⟨rfl, HB1.out⟩
  · have ht : 490 < t.size := h.resolve_left hs
    have hs1 : decide (490 < (s.size : Int)) = false := decide_eq_false (by omega)
    have ht1 : decide (490 < (t.size : Int)) = true := decide_eq_true (by omega)
    clear hs ht h
    go_enter Tryd.func9, Tryd.ntmps9
    go_wp2_with (fail)
    (with_reducible refine (tabardlaw13_shown.calls true _ (HG.out.below HB0.out) rfl).mono ?_)
    rintro e w1 ⟨rfl, hb⟩
    have HB1 := Aside0.mk (HB0.out.trans (hb.mono HB0.out.size))
    clear hb
    go_wp2
    go_ret
    exact ⟨rfl, HB1.out⟩
set_option maxRecDepth 100000 in
set_option maxHeartbeats 4000000 in
theorem joins_bad (s t : ByteArray) (la lb : List S62) (ea eb pa pb : Int) (W : World) (hGL : GL W) (hs : ¬ 490 < s.size) (ht : ¬ 490 < t.size) (hpa : pattern_Parse.f s = some (la, ea, pa)) (hpb : pattern_Parse.f t = some (lb, eb, pb))
    (h : ¬ ea = 0 ∨ ¬ eb = 0 ∨ ¬ la.length = 1 ∨ ¬ lb.length = 1) : Calls Tryd.prog 9 #[.string s, .string t] W (JoinsEnd W) := by
  have HG := Aside0.mk hGL
  have HB0 := Aside0.mk (Below.refl W.heap.size W)
  have HPa := Aside0.mk hpa
  have HPb := Aside0.mk hpb
  have H := Aside0.mk h
  have hs1 : decide (490 < (s.size : Int)) = false := decide_eq_false (by omega)
  have ht1 : decide (490 < (t.size : Int)) = false := decide_eq_false (by omega)
  clear hGL hpa hpb hs ht h
  generalize hna : la.length = na at *
  generalize hnb : lb.length = nb at *
  have HNA := Aside0.mk hna
  have HNB := Aside0.mk hnb
  clear hna hnb
  go_enter Tryd.func9, Tryd.ntmps9
  go_wp2_with (fail)
  (with_reducible refine (tabardlaw13_shown.calls true _ (HG.out.below HB0.out) rfl).mono ?_)
  rintro e w1 ⟨rfl, hb⟩
  have HB1 := Aside0.mk (HB0.out.trans (hb.mono HB0.out.size))
  clear hb
  go_wp2_with (fail)
  (with_reducible refine (pattern_Parse.calls s la ea pa _ (HG.out.below HB1.out) HPa.out).mono ?_)
  rintro e wa ⟨va, rfl, hSa, hb⟩
  obtain ⟨Aa, ca, rfl, hca, hCa⟩ := Kd.S_reads hSa
  rw [HNA.out]
  have HBa := Aside0.mk (below_alloc (HB1.out.trans (hb.mono HB1.out.size)) (.cells #[.slice Aa na ca] 55 (0, 0)))
  clear hSa hb hCa hca
  go_wp2_with (fail)
  (with_reducible refine (pattern_Parse.calls t lb eb pb _ (HG.out.below HBa.out) HPb.out).mono ?_)
  rintro e wb ⟨vb, rfl, hSb, hb⟩
  obtain ⟨Ab, cb, rfl, hcb, hCb⟩ := Kd.S_reads hSb
  rw [HNB.out]
  have HBb := Aside0.mk (below_alloc (HBa.out.trans (hb.mono HBa.out.size)) (.cells #[.slice Ab nb cb] 55 (0, 0)))
  have e1 : wb.heap[wa.heap.size]? = some (.cells #[.slice Aa na ca] 55 (0, 0)) := (hb.block wa.heap.size (by rw [show (wa.alloc (.cells #[.slice Aa na ca] 55 (0, 0))).heap.size = wa.heap.size + 1 from Array.size_push _]; omega)).trans Array.getElem?_push_size
  have c1 : (wb.alloc (.cells #[.slice Ab nb cb] 55 (0, 0))).cell? ⟨wa.heap.size, 0, none⟩ = some (.slice Aa na ca) := (cel_alloc _ (blk_cell e1 0))
  clear hSb hb hCb hcb e1
  by_cases h1 : ea = 0
  · have h1b : (ea != 0) = false := bne_eq_false_iff_eq.mpr h1
    by_cases h2 : eb = 0
    · have h2b : (eb != 0) = false := bne_eq_false_iff_eq.mpr h2
      by_cases h3 : na = 1
      · have h4 : ¬ nb = 1 := by rcases H.out with h9 | h9 | h9 | h9 <;> first | exact h9 | exact absurd ‹_› h9
        have h3b : ((na : Int) != 1) = false := bne_eq_false_iff_eq.mpr (by omega)
        have h4b : ((nb : Int) != 1) = true := bne_iff_ne.mpr (by omega)
        clear h1 h2 h3 h4
        go_wp2
        go_ret
        exact ⟨rfl, HBb.out⟩
      · have h3b : ((na : Int) != 1) = true := bne_iff_ne.mpr (by omega)
        clear h1 h2 h3
        go_wp2
        go_ret
        exact ⟨rfl, HBb.out⟩
    · have h2b : (eb != 0) = true := bne_iff_ne.mpr h2
      clear h1 h2
      go_wp2
      go_ret
      exact ⟨rfl, HBb.out⟩
  · have h1b : (ea != 0) = true := bne_iff_ne.mpr h1
    clear h1
    go_wp2
    go_ret
    exact ⟨rfl, HBb.out⟩
end Go.Proofs.YtmbhjogohfcjgaaDoor.P
