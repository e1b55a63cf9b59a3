/- What the walks of package pattern read of the package variables: the library's tables of UTF-8, and its bound. -/
import Derived.Test.YtmbhjogohfcjgaaDoorP0
import Derived.Shelf.Unicode.DecodeSlow
namespace Go.Proofs.YtmbhjogohfcjgaaDoor.P
open Go.RowKit Go.Proofs.YtmbhjogohfcjgaaDoorW.PrintWords
structure GL (w : World) : Prop where
 size : 5 ≤ w.heap.size
 tabs : Lib.Utf8Tabs 2 3 w
 m : ∃ m, w.cell? ⟨4, 0, none⟩ = some (.int .i64 m)
theorem GL.below {w w' : World} (h : GL w) (hb : Below w.heap.size w w') : GL w' := by
 have c : ∀ a : Addr, a.block < 5 → w'.cell? a = w.cell? a := fun a ha => hb.cell (p := a) (Nat.lt_of_lt_of_le ha h.size)
 refine ⟨Nat.le_trans h.size hb.size, ⟨fun i hi => (c _ (by show 2 < 5; decide)).trans (h.tabs.1 i hi), fun i hi => ⟨(c _ (by show 3 < 5; decide)).trans (h.tabs.2 i hi).1, (c _ (by show 3 < 5; decide)).trans (h.tabs.2 i hi).2⟩⟩, ?_⟩
 obtain ⟨m, hm⟩ := h.m
 exact ⟨m, (c _ (by decide)).trans hm⟩
end Go.Proofs.YtmbhjogohfcjgaaDoor.P
