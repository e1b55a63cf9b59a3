/- LocaleGroups, as a law of the printed functions: it is true of every number and every two texts. -/
import Derived.Test.YtmbhjogohfcjgaaDoorLma
import Derived.Test.YtmbhjogohfcjgaaDoorL13
namespace Go.Proofs.YtmbhjogohfcjgaaDoor.Lm
open Go.RowKit Go.Proofs.YtmbhjogohfcjgaaDoorW.PrintWords Go.Proofs.YtmbhjogohfcjgaaDoorW.PrintLast Go.Proofs.YtmbhjogohfcjgaaDoorW.PrintMore Go.Proofs.YtmbhjogohfcjgaaDoor.L
set_option linter.unusedVariables false
set_option linter.unusedSimpArgs false

theorem groups_true (a0 : Int) (a1 a2 : ByteArray) (hlo : -9223372036854775808 ≤ a0) (hhi : a0 ≤ 9223372036854775807) : tabardlaw11_LocaleGroups.f 10000 a0 a1 a2 = some true := by
  unfold tabardlaw11_LocaleGroups.f
  rw [shown_big (by decide), Option.bind_some, if_pos rfl]
  by_cases h1 : (a1.size : Int) > 1000
  · rw [if_pos h1]
  rw [if_neg h1]
  by_cases h2 : (a2.size : Int) > 1000
  · rw [if_pos h2]
  rw [if_neg h2]
  obtain ⟨f0, f1, G, f3, f4, f5, f6, b0, b1, l, sec, hl, hG, hf, _⟩ := find_right a0 hlo hhi
  rw [hf, Option.bind_some]
  simp only []
  rw [prog_plain hl f0 f1 G f3 f4 f5 f6 b0 b1 hG a2 (by omega) 10000 (by omega), Option.bind_some, ref_plain_f hl.pos.1 hl.pos.2 f0 f1 G f3 f4 f5 f6 b0 b1 hG a2 (by omega) 10000 (by omega), Option.bind_some]
  simp only []
  rw [if_pos trivial, if_neg (by simp)]
  have hd : tabardlaw11_digitsAll.f 10000 a1 = some ((by_ a1).all isDig) := dall a1 (by omega) a1.size 10000 0 (by omega) (by omega) (by omega)
  rw [hd, Option.bind_some]
  by_cases ha : (by_ a1).all isDig = true
  · rw [if_pos ha, prog_grouped_f hl f0 f1 G f3 f4 f5 f6 b0 b1 hG a1 (by omega) 10000 (by omega), Option.bind_some]
    have hgl : (tx (grp (by_ G) sec 0 true (by_ a1))).size ≤ 4000 := by
      rw [← by_len]
      refine Nat.le_trans (grp_len (by_ G) sec 0 true (by_ a1)) ?_
      rw [by_len, by_len]
      have h3 := hG.le
      exact Nat.le_trans (Nat.mul_le_mul (show a1.size ≤ 1000 by omega) (show G.size + 1 ≤ 4 by omega)) (by decide)
    rw [prog_plain hl f0 f1 G f3 f4 f5 f6 b0 b1 hG _ (by omega) 10000 (by omega), Option.bind_some, ref_grouped_f hl.pos.1 hl.pos.2 f0 f1 G f3 f4 f5 f6 b0 b1 hG a1 (by omega) 10000 (by omega), Option.bind_some]
    have e : plainR (by_ G) sec (by_ (tx (grp (by_ G) sec 0 true (by_ a1)))) = (by_ a1, !(by_ a1).isEmpty) := plain_of_grouped hG sec (by_ a1) ha
    rw [e]
    simp only []
    rw [if_pos trivial, if_pos trivial, toList_by]
    cases by_ a1 <;> rfl
  · rw [if_neg ha]
theorem groups_ex (a0 : Int) (a1 a2 : ByteArray) (hlo : -9223372036854775808 ≤ a0) (hhi : a0 ≤ 9223372036854775807) : ∃ k, tabardlaw11_LocaleGroups.f k a0 a1 a2 = some true := ⟨10000, groups_true a0 a1 a2 hlo hhi⟩
end Go.Proofs.YtmbhjogohfcjgaaDoor.Lm
