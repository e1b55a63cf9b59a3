/- locale.Names, its contract: the six names, in a block of the array's type (the slice that it answers is of a copy of the array). -/
import Derived.Test.YtmbhjogohfcjgaaDoorLfdD
namespace Go.Proofs.YtmbhjogohfcjgaaDoor.L
open Go.RowKit Go.Proofs.YtmbhjogohfcjgaaDoorW.PrintWords Go.Proofs.YtmbhjogohfcjgaaDoorW.PrintLast Go.Proofs.YtmbhjogohfcjgaaDoorW.PrintMore
theorem R_strings {w : World} {base g : Nat} {t : TypeId} {l : List ByteArray} (hb : w.heap[g]? = some (.cells ((l.map Value.string).toArray) t (0, 0))) (hg : base ≤ g) (hl : l.length ≤ maxLen) :
    Kd.R Kd.string t w base (fun _ => True) (.slice (some ⟨g, 0, none⟩) l.length l.length) l := by
  refine ⟨fun _ _ => trivial, l.map Value.string, ⟨by simp [Kd.string, Kd.scalar], .inr ⟨g, l.length, _, rfl, hg, hb, Nat.le_refl _, hl, by simp [Kd.string, Kd.scalar], by simp [Kd.string, Kd.scalar]; exact List.take_of_length_le (by simp)⟩⟩, by simp [Kd.string, Kd.scalar], fun j p hp => ?_⟩
  simp only [Kd.string, Kd.scalar, Nat.mul_one]
  have hj : j < l.length := (List.getElem?_eq_some_iff.1 hp).1
  have e : (l.map Value.string)[j]? = some (.string p) := by rw [List.getElem?_map, hp]; rfl
  rw [List.drop_eq_getElem_cons (by simpa using hj)]
  have := List.getElem?_eq_some_iff.1 e
  obtain ⟨h1, h2⟩ := this
  rw [h2]
  rfl
def locale_Names.f : Option (List ByteArray) := some [⟨#[99, 104]⟩, ⟨#[100, 101]⟩, ⟨#[101, 110]⟩, ⟨#[102, 114]⟩, ⟨#[104, 105]⟩, ⟨#[115, 118]⟩]
theorem locale_Names.calls (r : List ByteArray) (w : World) (hGL : GL w) (h : locale_Names.f = some r) :
    Calls Tryd.prog 24 #[] w fun e w' => ∃ v0_ : Value, e = .returned (v0_) ∧ Kd.R Kd.string 82 w' w.heap.size (fun _ => True) v0_ r ∧ Below w.heap.size w w' := by
  obtain rfl := Option.some.inj h
  exact (names_walk w hGL).mono fun e w' ⟨he, hb, hB⟩ => ⟨_, he, R_strings (l := [⟨#[99, 104]⟩, ⟨#[100, 101]⟩, ⟨#[101, 110]⟩, ⟨#[102, 114]⟩, ⟨#[104, 105]⟩, ⟨#[115, 118]⟩]) hb (Nat.le_refl _) (by simp [maxLen]), hB⟩
end Go.Proofs.YtmbhjogohfcjgaaDoor.L
