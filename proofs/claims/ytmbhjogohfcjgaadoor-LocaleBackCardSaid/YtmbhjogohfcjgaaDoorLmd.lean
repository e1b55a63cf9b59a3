/- LocaleBack: true of every number and every decimal. -/
import Derived.Test.YtmbhjogohfcjgaaDoorLmc
namespace Go.Proofs.YtmbhjogohfcjgaaDoor.Lm
open Go.RowKit Go.Proofs.YtmbhjogohfcjgaaDoorW.PrintWords Go.Proofs.YtmbhjogohfcjgaaDoorW.PrintLast Go.Proofs.YtmbhjogohfcjgaaDoorW.PrintMore Go.Proofs.YtmbhjogohfcjgaaDoor.L
set_option linter.unusedVariables false
set_option linter.unusedSimpArgs false

theorem bj_true (k : Nat) (a0 : Int) (n : Bool) (d : ByteArray) (e : Int) : tabardlaw11_LocaleBack.j0 (k + 1) a0 true true n d e = some true := by
  simp only [tabardlaw11_LocaleBack.j0]; rfl
theorem back_true (a0 : Int) (n : Bool) (d : ByteArray) (e : Int) (hlo : -9223372036854775808 ≤ a0) (hhi : a0 ≤ 9223372036854775807) : tabardlaw11_LocaleBack.f 20002 a0 n d e = some true := by
  unfold tabardlaw11_LocaleBack.f
  rw [shown_big (by decide), Option.bind_some]
  by_cases hs : d.size ≤ 1200
  rotate_left
  · have hr : tabardref7_Right.f 20002 n d e = some false := by
      unfold tabardref7_Right.f
      rw [if_neg (by omega), if_pos (by omega)]
      exact rj_true 20001 _ _ _ _
    rw [hr, Option.bind_some, if_pos rfl, if_neg (by decide)]
    exact bj_true 20001 _ _ _ _
  rw [ref_right n d e hs 20002 (by omega), Option.bind_some, if_pos rfl]
  by_cases hg : goodD d e = true
  rotate_left
  · rw [if_neg hg]; exact bj_true 20001 _ _ _ _
  rw [if_pos hg, ref_point n d e hs 20002 (by omega), Option.bind_some]
  by_cases h1 : pointD d e > 300
  · rw [if_pos h1]; exact bj_true 20001 _ _ _ _
  rw [if_neg h1]
  by_cases h2 : pointD d e < -100
  · rw [if_pos h2]; exact bj_true 20001 _ _ _ _
  rw [if_neg h2]
  by_cases h3 : (d.size : Int) > 200
  · rw [decide_eq_true h3]; exact bj_true 20001 _ _ _ _
  rw [decide_eq_false h3]
  show tabardlaw11_LocaleBack.j0 (20001 + 1) a0 true false n d e = _
  simp only [tabardlaw11_LocaleBack.j0]
  rw [if_neg (by decide)]
  obtain ⟨f0, f1, G, f3, f4, f5, f6, b0, b1, l, sec, hl, hG, hf, hd1, hGs, hne, hd4, h6⟩ := find_right a0 hlo hhi
  have hc : ∃ c, f1 = tx [c] ∧ isDig c = false ∧ c ∉ by_ G := by
    rcases hd1 with rfl | rfl
    · refine ⟨46, rfl, by decide, ?_⟩
      rcases hGs with rfl | rfl | rfl | rfl | rfl
      · decide
      · exact absurd rfl hne
      · decide
      · decide
      · decide
    · refine ⟨44, rfl, by decide, ?_⟩
      rcases hGs with rfl | rfl | rfl | rfl | rfl
      · decide
      · decide
      · exact absurd rfl hne
      · decide
      · decide
  obtain ⟨c, rfl, hcd, hcG⟩ := hc
  have hs4 : f4.size ≤ 100 := by rcases hd4 with rfl | rfl <;> decide
  rw [hf, Option.bind_some]
  simp only []
  have hgb := good_b hg
  have hP : pointD d e = d.size + e := by unfold pointD; rw [if_pos hg]
  rw [prog_write_good hl f0 (tx [c]) G f3 f4 f5 f6 b0 b1 hG (by show 1 ≤ 100; decide) hs4 n d e hs hg (by omega) 20001 (by decide), Option.bind_some]
  have hX : ∀ X : List UInt8, by_ (tx X) = X := fun _ => rfl
  cases n
  · rw [if_neg (by decide)]
    exact back_main hl f0 c G f3 f4 f5 f6 b0 b1 hG hcd hcG false d e (by omega) hg (by omega) (by omega) _ (by unfold outR; rw [if_neg (by decide), List.nil_append]; rfl) 20001 (by decide)
  · rw [if_pos rfl]
    have hz : (outR (tx [c]) f4 true (tx (grp (by_ G) sec 0 true (wholeD (by_ d) (pointD d e)))) (tx (restD (by_ d) (pointD d e)))).size = f4.size + (grp (by_ G) sec 0 true (wholeD (by_ d) (pointD d e)) ++ (if restD (by_ d) (pointD d e) = [] then [] else c :: restD (by_ d) (pointD d e))).length := by
      rw [← by_len]
      unfold outR
      rw [if_pos rfl, hX, List.length_append, by_len]
      rfl
    have hb : by_ (outR (tx [c]) f4 true (tx (grp (by_ G) sec 0 true (wholeD (by_ d) (pointD d e)))) (tx (restD (by_ d) (pointD d e)))) = by_ f4 ++ (grp (by_ G) sec 0 true (wholeD (by_ d) (pointD d e)) ++ (if restD (by_ d) (pointD d e) = [] then [] else c :: restD (by_ d) (pointD d e))) := by
      unfold outR
      rw [if_pos rfl]
      rfl
    generalize outR (tx [c]) f4 true (tx (grp (by_ G) sec 0 true (wholeD (by_ d) (pointD d e)))) (tx (restD (by_ d) (pointD d e))) = Y at hz hb ⊢
    rw [if_neg (by omega), if_pos (by omega), if_pos (by omega), if_pos]
    · refine back_main hl f0 c G f3 f4 f5 f6 b0 b1 hG hcd hcG true d e (by omega) hg (by omega) (by omega) _ ?_ 20001 (by decide)
      rw [by_extract, hb, Int.toNat_natCast, ← by_len f4, List.drop_left, List.take_of_length_le (by rw [by_len f4]; omega)]
    · rw [toList_by, toList_by, by_extract, hb, Int.toNat_natCast, List.drop_zero, Nat.sub_zero, ← by_len f4, List.take_left]
theorem back_ex (a0 : Int) (n : Bool) (d : ByteArray) (e : Int) (hlo : -9223372036854775808 ≤ a0) (hhi : a0 ≤ 9223372036854775807) : ∃ k, tabardlaw11_LocaleBack.f k a0 n d e = some true := ⟨20002, back_true a0 n d e hlo hhi⟩
end Go.Proofs.YtmbhjogohfcjgaaDoor.Lm
