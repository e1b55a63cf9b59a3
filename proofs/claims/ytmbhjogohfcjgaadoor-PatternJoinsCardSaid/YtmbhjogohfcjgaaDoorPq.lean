/- Parse, in the print's own form. -/
import Derived.Test.YtmbhjogohfcjgaaDoorPqb
namespace Go.Proofs.YtmbhjogohfcjgaaDoor.P
open Go.RowKit Go.Proofs.YtmbhjogohfcjgaaDoorW.PrintWords
def pattern_Parse.f (a0 : ByteArray) : Option ((List (S62)) × Int × Int) :=
 some (match parseR a0 with | .error x => ([], x.1, x.2) | .ok l => (l, 0, 0))
theorem pattern_Parse.calls (a0 : ByteArray) (r1 : List (S62)) (r2 : Int) (r3 : Int) (w : World) (hGL : GL w) (h : pattern_Parse.f a0 = some (r1, r2, r3)) :
  Calls Tryd.prog 37 #[.string a0] w fun e w' => ∃ v0_ : Value, e = .returned (.tuple #[.agg #[v0_], .int .i64 r2, .int .i64 r3]) ∧ Kd.S k62 62 w' w.heap.size (fun _ => True) v0_ r1 ∧ Below w.heap.size w w' := by
 have h := Option.some.inj h
 have hw := parse_walk a0 w hGL
 rcases hp : parseR a0 with x | l
 ·rw [hp] at h hw
  have h : (([] : List S62), x.1, x.2) = (r1, r2, r3) := h
  cases h
  exact hw.mono fun e w' hh => ⟨_, hh.1, Kd.S_nil _ _ _ _ _, hh.2⟩
 ·rw [hp] at h hw
  have h : (l, (0 : Int), (0 : Int)) = (r1, r2, r3) := h
  cases h
  exact hw
end Go.Proofs.YtmbhjogohfcjgaaDoor.P
