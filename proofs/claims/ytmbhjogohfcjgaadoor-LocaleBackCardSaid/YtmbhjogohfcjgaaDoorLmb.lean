/- LocaleBack, the parts: what Write tells of a right decimal. -/
import Derived.Test.YtmbhjogohfcjgaaDoorLm8
namespace Go.Proofs.YtmbhjogohfcjgaaDoor.Lm
open Go.RowKit Go.Proofs.YtmbhjogohfcjgaaDoorW.PrintWords Go.Proofs.YtmbhjogohfcjgaaDoorW.PrintLast Go.Proofs.YtmbhjogohfcjgaaDoorW.PrintMore Go.Proofs.YtmbhjogohfcjgaaDoor.L
set_option linter.unusedVariables false
set_option linter.unusedSimpArgs false

/-- What is written of two sides. -/
def outR (f1 f4 : ByteArray) (neg : Bool) (w r : ByteArray) : ByteArray :=
  tx ((if neg = true then by_ f4 else []) ++ (by_ w ++ (if by_ r = [] then [] else by_ f1 ++ by_ r)))

theorem prog_j1 (f0 f1 G f3 f4 f5 f6 : ByteArray) (b0 b1 : Bool) (l : List Int) (h1 : f1.size ≤ 100) (h4 : f4.size ≤ 100) (neg : Bool) (d : ByteArray) (e : Int) (w r : ByteArray) (hw : w.size ≤ 10000) (hr : r.size ≤ 10000) (k : Nat) (hk : 1 ≤ k) :
    locale_Locale_Write.j1 k w r f0 f1 G f3 f4 f5 f6 b0 b1 l neg d e = some (outR f1 f4 neg w r) := by
  obtain ⟨k, rfl⟩ : ∃ m, k = m + 1 := ⟨k - 1, by omega⟩
  simp only [locale_Locale_Write.j1, toList_by, ByteArray.size_append]
  unfold outR
  cases neg
  · rw [if_neg (show ¬ (false = true) from Bool.false_ne_true), if_neg (show ¬ (false = true) from Bool.false_ne_true)]
    by_cases h : by_ r = []
    · rw [if_pos h, if_pos h, List.nil_append, List.append_nil]
    · rw [if_neg h, if_neg h, if_pos (by omega), if_pos (by omega)]
      refine congrArg some (by_ext ?_)
      rw [by_app, by_app]; rfl
  · rw [if_pos rfl, if_pos rfl, if_pos (by omega)]
    by_cases h : by_ r = []
    · rw [if_pos h, if_pos h, List.append_nil]
      refine congrArg some (by_ext ?_)
      rw [by_app]
    · rw [if_neg h, if_neg h, if_pos (by omega), if_pos (by omega)]
      refine congrArg some (by_ext ?_)
      rw [by_app, by_app, by_app, List.append_assoc]

theorem good0 {d : ByteArray} {e : Int} (h : goodD d e = true) (h0 : d.size = 0) : sidesD d (pointD d e) = (tx [48], tx [], true) := by
  have he := (good_b h).2.2 h0
  have hn : by_ d = [] := List.eq_nil_of_length_eq_zero (by rw [by_len]; exact h0)
  unfold pointD
  rw [if_pos h, h0, he]
  unfold sidesD
  rw [if_neg (by rw [h0]; omega), hn]
  rfl

theorem prog_write_good {l : List Int} {sec : Nat} (hl : Szs l sec) (f0 f1 G f3 f4 f5 f6 : ByteArray) (b0 b1 : Bool) (hG : Gm G) (h1 : f1.size ≤ 100) (h4 : f4.size ≤ 100) (neg : Bool) (d : ByteArray) (e : Int) (hd : d.size ≤ 1200)
    (hg : goodD d e = true) (hP : ¬ (pointD d e > 400 ∨ (d.size : Int) - pointD d e > 400)) (k : Nat) (hk : 10000 ≤ k) :
    locale_Locale_Write.f k f0 f1 G f3 f4 f5 f6 b0 b1 l neg d e true = some (outR f1 f4 neg (tx (grp (by_ G) sec 0 true (wholeD (by_ d) (pointD d e)))) (tx (restD (by_ d) (pointD d e)))) := by
  unfold locale_Locale_Write.f
  have hs : locale_sides.f k neg d e = some (sidesD d (pointD d e)) := by
    by_cases h0 : d.size = 0
    · rw [good0 hg h0]
      unfold locale_sides.f
      rw [prog_point neg d e hd, Option.bind_some, if_pos (by omega)]
    · exact prog_sides neg d e hd h0 k (by omega)
  have hb := good_b hg
  have hw : (tx (wholeD (by_ d) (pointD d e))).size ≤ 2000 := by
    rw [← by_len]
    show (wholeD (by_ d) (pointD d e)).length ≤ _
    unfold wholeD
    by_cases h' : pointD d e ≤ 0
    · rw [if_pos h']; simp
    · rw [if_neg h']; simp; omega
  have hr : (tx (restD (by_ d) (pointD d e))).size ≤ 2000 := by
    rw [← by_len]
    show (restD (by_ d) (pointD d e)).length ≤ _
    unfold restD
    simp only [List.length_append, List.length_replicate, List.length_drop, by_len]
    omega
  have hgl : (tx (grp (by_ G) sec 0 true (wholeD (by_ d) (pointD d e)))).size ≤ 8000 := by
    rw [← by_len]
    refine Nat.le_trans (grp_len (by_ G) sec 0 true (wholeD (by_ d) (pointD d e))) ?_
    have h3 := hG.le
    have h5 : (wholeD (by_ d) (pointD d e)).length ≤ 2000 := by rw [← by_len] at hw; exact hw
    rw [by_len]
    exact Nat.le_trans (Nat.mul_le_mul h5 (show G.size + 1 ≤ 4 by omega)) (by decide)
  obtain ⟨k, rfl⟩ : ∃ m, k = m + 1 := ⟨k - 1, by omega⟩
  rw [hs, Option.bind_some, prog_right neg d e hd, Option.bind_some, hg]
  have e1 : sidesD d (pointD d e) = (tx (wholeD (by_ d) (pointD d e)), tx (restD (by_ d) (pointD d e)), true) := by unfold sidesD; rw [if_neg hP]
  rw [e1]
  show (if true = true then locale_Locale_Write.j0 (k + 1) true _ _ (!true) f0 f1 G f3 f4 f5 f6 b0 b1 l neg d e else _) = _
  rw [if_pos rfl]
  simp only [locale_Locale_Write.j0]
  rw [if_neg (by decide), if_pos trivial, prog_grouped_f hl f0 f1 G f3 f4 f5 f6 b0 b1 hG _ (by omega) k (by omega), Option.bind_some]
  exact prog_j1 f0 f1 G f3 f4 f5 f6 b0 b1 l h1 h4 neg d e _ _ (Nat.le_trans hgl (by decide)) (Nat.le_trans hr (by decide)) k (by omega)
end Go.Proofs.YtmbhjogohfcjgaaDoor.Lm
