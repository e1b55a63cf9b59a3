/- PatternJoins, all ways: it answers true. -/
import Derived.Test.YtmbhjogohfcjgaaDoorPj4
namespace Go.Proofs.YtmbhjogohfcjgaaDoor.P
open Go.RowKit Go.Proofs.YtmbhjogohfcjgaaDoorW.PrintWords
set_option linter.unusedVariables false
set_option linter.unusedSimpArgs false

theorem parseL_inv : ∀ (f : Nat) (st st2 : RS), parseL f st = .ok st2 → Inv st → Inv st2
  | 0, st, st2, h, hI => by rw [← Except.ok.inj h]; exact hI
  | f + 1, st, st2, h, hI => by
    unfold parseL at h
    by_cases hlt : st.at_ < st.s.size
    · rw [if_pos hlt] at h
      rcases hp : oneM st with x | st3
      · rw [hp] at h; cases h
      · rw [hp] at h
        exact parseL_inv f st3 st2 h (oneM_ok hp hI hlt).1
    · rw [if_neg hlt] at h
      rw [← Except.ok.inj h]; exact hI
theorem parse_len {s : ByteArray} {a : S62} (hs : s.size ≤ 490) (h : parseR s = .ok [a]) : a.f0.length ≤ 1000000 := by
  obtain ⟨st, l, e, _⟩ := parse_ok hs h
  have hI := parseL_inv _ _ _ l (parse0_inv s (by omega))
  have h1 := hI.il
  have h2 := hI.it
  rw [e] at h1
  have h1 : a.f0.length ≤ st.items := h1
  omega
theorem parse_err {s : ByteArray} {x : Int × Int} (h : parseR s = .error x) : pattern_Parse.f s = some ([], x.1, x.2) := by unfold pattern_Parse.f; rw [h]
theorem parse_fine {s : ByteArray} {l : List S62} (h : parseR s = .ok l) : pattern_Parse.f s = some (l, 0, 0) := by unfold pattern_Parse.f; rw [h]
theorem parse_any (s : ByteArray) : (∃ a, parseR s = .ok [a] ∧ pattern_Parse.f s = some ([a], 0, 0)) ∨ (∃ l e p, pattern_Parse.f s = some (l, e, p) ∧ ¬ l.length = 1) := by
  rcases h : parseR s with x | l
  · exact Or.inr ⟨_, _, _, parse_err h, by decide⟩
  · by_cases h1 : l.length = 1
    · obtain ⟨a, rfl⟩ := List.length_eq_one_iff.mp h1
      exact Or.inl ⟨a, rfl, parse_fine h⟩
    · exact Or.inr ⟨_, _, _, parse_fine h, h1⟩
theorem joins_walk (s t : ByteArray) (W : World) (hGL : GL W) : Calls Tryd.prog 9 #[.string s, .string t] W (JoinsEnd W) := by
  by_cases hs : 490 < s.size
  · exact joins_long s t W hGL (Or.inl hs)
  by_cases ht : 490 < t.size
  · exact joins_long s t W hGL (Or.inr ht)
  rcases parse_any s with ⟨a, ra, fa⟩ | ⟨la, ea, pa, fa, h1⟩
  · rcases parse_any t with ⟨b, rb, fb⟩ | ⟨lb, eb, pb, fb, h1⟩
    · have hla := parse_len (by omega) ra
      have hlb := parse_len (by omega) rb
      by_cases h : 100 < a.f0.length + b.f0.length
      · exact joins_many s t a b 0 0 W hGL hs ht fa fb hla hlb h
      by_cases h6 : shapeOf a.f0 a.f1 a.f2 = 6
      · exact joins_wordsA s t a b 0 0 W hGL hs ht fa fb hla hlb h h6
      by_cases h7 : shapeOf b.f0 b.f1 b.f2 = 6
      · exact joins_wordsB s t a b 0 0 W hGL hs ht fa fb hla hlb h h6 h7
      obtain ⟨ks, hk⟩ := jsame_two a b hla hlb
      exact joins_on ks s t a b 0 0 W hGL hs ht fa fb hla hlb h h6 h7 (parse_fine (parse_join (by omega) (by omega) ra rb (by omega) h6 h7)) (jsections_one a hla _ (by omega)) (jsections_one b hlb _ (by omega)) hk
    · exact joins_bad s t [a] lb 0 eb 0 pb W hGL hs ht fa fb (Or.inr (Or.inr (Or.inr h1)))
  · obtain ⟨lb, eb, pb, fb⟩ : ∃ lb eb pb, pattern_Parse.f t = some (lb, eb, pb) := by
      rcases parse_any t with ⟨b, _, fb⟩ | ⟨lb, eb, pb, fb, _⟩
      · exact ⟨_, _, _, fb⟩
      · exact ⟨_, _, _, fb⟩
    exact joins_bad s t la lb ea eb pa pb W hGL hs ht fa fb (Or.inr (Or.inr (Or.inl h1)))
end Go.Proofs.YtmbhjogohfcjgaaDoor.P
