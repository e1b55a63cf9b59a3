/- LocaleWrites, as a law of the printed functions: it is true of every number, every decimal and every text. -/
import Derived.Test.YtmbhjogohfcjgaaDoorLm5
import Derived.Test.YtmbhjogohfcjgaaDoorL14
namespace Go.Proofs.YtmbhjogohfcjgaaDoor.Lm
open Go.RowKit Go.Proofs.YtmbhjogohfcjgaaDoorW.PrintWords Go.Proofs.YtmbhjogohfcjgaaDoorW.PrintLast Go.Proofs.YtmbhjogohfcjgaaDoorW.PrintMore Go.Proofs.YtmbhjogohfcjgaaDoor.L
set_option linter.unusedVariables false
set_option linter.unusedSimpArgs false

/-- What is written of two sides. -/
def outR (f1 f4 : ByteArray) (neg : Bool) (w r : ByteArray) : ByteArray :=
  tx ((if neg = true then by_ f4 else []) ++ (by_ w ++ (if by_ r = [] then [] else by_ f1 ++ by_ r)))

theorem prog_j1 (f0 f1 G f3 f4 f5 f6 : ByteArray) (b0 b1 : Bool) (l : List Int) (h1 : f1.size ≤ 100) (h4 : f4.size ≤ 100) (neg : Bool) (d : ByteArray) (e : Int) (w r : ByteArray) (hw : w.size ≤ 10000) (hr : r.size ≤ 10000) (k : Nat) (hk : 1 ≤ k) :
    locale_Locale_Write.j1 k w r f0 f1 G f3 f4 f5 f6 b0 b1 l neg d e = some (outR f1 f4 neg w r) := by
  obtain ⟨k, rfl⟩ : ∃ m, k = m + 1 := ⟨k - 1, by omega⟩
  simp only [locale_Locale_Write.j1, toList_by, ByteArray.size_append]
  unfold outR
  cases neg
  · rw [if_neg (show ¬ (false = true) from Bool.false_ne_true), if_neg (show ¬ (false = true) from Bool.false_ne_true)]
    by_cases h : by_ r = []
    · rw [if_pos h, if_pos h, List.nil_append, List.append_nil]
    · rw [if_neg h, if_neg h, if_pos (by omega), if_pos (by omega)]
      refine congrArg some (by_ext ?_)
      rw [by_app, by_app]; rfl
  · rw [if_pos rfl, if_pos rfl, if_pos (by omega)]
    by_cases h : by_ r = []
    · rw [if_pos h, if_pos h, List.append_nil]
      refine congrArg some (by_ext ?_)
      rw [by_app]
    · rw [if_neg h, if_neg h, if_pos (by omega), if_pos (by omega)]
      refine congrArg some (by_ext ?_)
      rw [by_app, by_app, by_app, List.append_assoc]

theorem ref_j0 {sec : Nat} (h0 : 0 < sec) (h3 : sec ≤ 3) (f0 f1 G f3 f4 f5 f6 : ByteArray) (b0 b1 : Bool) (hG : Gm G) (h1 : f1.size ≤ 100) (g : Bool) (w r s : ByteArray) (hw : w.size ≤ 2000) (hr : r.size ≤ 2000) (hs : s.size ≤ 100) (k : Nat) (hk : 3000 ≤ k) :
    tabardref11_Locale_Write.j0 k g w r s f0 f1 G f3 f4 f5 f6 b0 b1 (sec : Int) = some (tx (by_ s ++ ((if g = true then grp (by_ G) sec 0 true (by_ w) else by_ w) ++ (if by_ r = [] then [] else by_ f1 ++ by_ r)))) := by
  obtain ⟨k, rfl⟩ : ∃ m, k = m + 1 := ⟨k - 1, by omega⟩
  simp only [tabardref11_Locale_Write.j0, toList_by, ByteArray.size_append]
  cases g
  · rw [if_neg (show ¬ (false = true) from Bool.false_ne_true), if_neg (show ¬ (false = true) from Bool.false_ne_true), if_pos (by omega)]
    by_cases h : by_ r = []
    · rw [if_pos h, if_pos h, List.append_nil]
      refine congrArg some (by_ext ?_)
      rw [by_app]
    · rw [if_neg h, if_neg h, if_pos (by omega), if_pos (by omega)]
      refine congrArg some (by_ext ?_)
      rw [by_app, by_app, by_app, List.append_assoc, List.append_assoc]
  · have hgl : (tx (grp (by_ G) sec 0 true (by_ w))).size ≤ 8000 := by
      rw [← by_len]
      refine Nat.le_trans (grp_len (by_ G) sec 0 true (by_ w)) ?_
      rw [by_len, by_len]
      have h3 := hG.le
      exact Nat.le_trans (Nat.mul_le_mul hw (show G.size + 1 ≤ 4 by omega)) (by decide)
    rw [if_pos rfl, if_pos rfl, ref_grouped_f h0 h3 f0 f1 G f3 f4 f5 f6 b0 b1 hG w (by omega) k (by omega), Option.bind_some, if_pos (by omega)]
    by_cases h : by_ r = []
    · rw [if_pos h, if_pos h, List.append_nil]
      refine congrArg some (by_ext ?_)
      rw [by_app]
    · rw [if_neg h, if_neg h, if_pos (by omega), if_pos (by omega)]
      refine congrArg some (by_ext ?_)
      rw [by_app, by_app, by_app, List.append_assoc, List.append_assoc]

theorem pj_true (k : Nat) (g : Bool) (w r f0 f1 G f3 f4 f5 f6 : ByteArray) (b0 b1 : Bool) (l : List Int) (neg : Bool) (d : ByteArray) (e : Int) : locale_Locale_Write.j0 (k + 1) g w r true f0 f1 G f3 f4 f5 f6 b0 b1 l neg d e = some (⟨#[]⟩ : ByteArray) := by
  simp only [locale_Locale_Write.j0]; rfl

theorem good0 {d : ByteArray} {e : Int} (h : goodD d e = true) (h0 : d.size = 0) : sidesD d (pointD d e) = (tx [48], tx [], true) := by
  have he := (good_b h).2.2 h0
  have hn : by_ d = [] := List.eq_nil_of_length_eq_zero (by rw [by_len]; exact h0)
  unfold pointD
  rw [if_pos h, h0, he]
  unfold sidesD
  rw [if_neg (by rw [h0]; omega), hn]
  rfl

theorem write_eq {l : List Int} {sec : Nat} (hl : Szs l sec) (f0 f1 G f3 f4 f5 f6 : ByteArray) (b0 b1 : Bool) (hG : Gm G) (h1 : f1.size ≤ 100) (h4 : f4.size ≤ 100) (neg : Bool) (d : ByteArray) (e : Int) (hd : d.size ≤ 1200) (g : Bool) :
    ∃ x, locale_Locale_Write.f 10000 f0 f1 G f3 f4 f5 f6 b0 b1 l neg d e g = some x ∧ tabardref11_Locale_Write.f 10000 f0 f1 G f3 f4 f5 f6 b0 b1 (sec : Int) neg d e g = some x := by
  unfold locale_Locale_Write.f tabardref11_Locale_Write.f
  rw [ref_right neg d e hd 10000 (by omega), Option.bind_some]
  by_cases hg : goodD d e = true
  · have hs : locale_sides.f 10000 neg d e = some (sidesD d (pointD d e)) := by
      by_cases h0 : d.size = 0
      · rw [good0 hg h0]
        unfold locale_sides.f
        rw [prog_point neg d e hd, Option.bind_some, if_pos (by omega)]
      · exact prog_sides neg d e hd h0 10000 (by decide)
    rw [hs, Option.bind_some, prog_right neg d e hd, Option.bind_some, if_pos hg, ref_sides neg d e hd hg 10000 (by decide), Option.bind_some, hg]
    have hb : sidesD d (pointD d e) = (⟨#[]⟩, ⟨#[]⟩, false) ∨ (∃ w r, sidesD d (pointD d e) = (w, r, true) ∧ w.size ≤ 2000 ∧ r.size ≤ 2000) := by
      have hP := good_b hg
      unfold sidesD
      by_cases h : pointD d e > 400 ∨ (d.size : Int) - pointD d e > 400
      · rw [if_pos h]; exact .inl rfl
      · rw [if_neg h]
        refine .inr ⟨_, _, rfl, ?_, ?_⟩
        · rw [← by_len]
          show (wholeD (by_ d) (pointD d e)).length ≤ _
          unfold wholeD
          by_cases h' : pointD d e ≤ 0
          · rw [if_pos h']; simp
          · rw [if_neg h']; simp; omega
        · rw [← by_len]
          show (restD (by_ d) (pointD d e)).length ≤ _
          unfold restD
          simp only [List.length_append, List.length_replicate, List.length_drop, by_len]
          omega
    rcases hb with hb | ⟨w, r, hb, hw, hr⟩
    · rw [hb]
      refine ⟨(⟨#[]⟩ : ByteArray), ?_, rfl⟩
      show (if false = true then _ else locale_Locale_Write.j0 (9999 + 1) g _ _ true f0 f1 G f3 f4 f5 f6 b0 b1 l neg d e) = _
      rw [if_neg Bool.false_ne_true, pj_true]
    · rw [hb]
      have hgl : (tx (grp (by_ G) sec 0 true (by_ w))).size ≤ 8000 := by
        rw [← by_len]
        refine Nat.le_trans (grp_len (by_ G) sec 0 true (by_ w)) ?_
        rw [by_len, by_len]
        have h3 := hG.le
        exact Nat.le_trans (Nat.mul_le_mul hw (show G.size + 1 ≤ 4 by omega)) (by decide)
      refine ⟨outR f1 f4 neg (if g = true then tx (grp (by_ G) sec 0 true (by_ w)) else w) r, ?_, ?_⟩
      · show (if true = true then locale_Locale_Write.j0 (9999 + 1) g w r (!true) f0 f1 G f3 f4 f5 f6 b0 b1 l neg d e else _) = _
        rw [if_pos rfl]
        simp only [locale_Locale_Write.j0]
        rw [if_neg (by decide)]
        cases g
        · rw [if_neg (show ¬ (false = true) from Bool.false_ne_true), if_neg (show ¬ (false = true) from Bool.false_ne_true)]
          exact prog_j1 f0 f1 G f3 f4 f5 f6 b0 b1 l h1 h4 neg d e w r (by omega) (by omega) 9999 (by decide)
        · rw [if_pos rfl, if_pos rfl, prog_grouped_f hl f0 f1 G f3 f4 f5 f6 b0 b1 hG w (by omega) 9999 (by omega), Option.bind_some]
          exact prog_j1 f0 f1 G f3 f4 f5 f6 b0 b1 l h1 h4 neg d e _ r (by omega) (by omega) 9999 (by decide)
      · show (if true = true then (if neg = true then _ else _) else _) = _
        rw [if_pos rfl]
        unfold outR
        cases neg
        · rw [if_neg (show ¬ (false = true) from Bool.false_ne_true), if_neg (show ¬ (false = true) from Bool.false_ne_true)]
          refine (ref_j0 hl.pos.1 hl.pos.2 f0 f1 G f3 f4 f5 f6 b0 b1 hG h1 g w r _ hw hr (by decide) 10000 (by decide)).trans ?_
          cases g <;> rfl
        · rw [if_pos rfl, if_pos rfl]
          refine (ref_j0 hl.pos.1 hl.pos.2 f0 f1 G f3 f4 f5 f6 b0 b1 hG h1 g w r f4 hw hr h4 10000 (by decide)).trans ?_
          cases g <;> rfl
  · refine ⟨(⟨#[]⟩ : ByteArray), ?_, by rw [if_neg hg]⟩
    have hs : ∃ X, locale_sides.f 10000 neg d e = some X := by
      by_cases h0 : d.size = 0
      · unfold locale_sides.f
        rw [prog_point neg d e hd, Option.bind_some, if_pos (by omega)]
        exact ⟨_, rfl⟩
      · exact ⟨_, prog_sides neg d e hd h0 10000 (by decide)⟩
    obtain ⟨X, hX⟩ := hs
    have hf : goodD d e = false := by cases h : goodD d e; rfl; exact absurd h hg
    rw [hX, Option.bind_some, prog_right neg d e hd, Option.bind_some, hf]
    by_cases hx : X.2.2 = true
    · rw [if_pos hx]; exact pj_true _ _ _ _ _ _ _ _ _ _ _ _ _ _ _ _ _
    · rw [if_neg hx]; exact pj_true _ _ _ _ _ _ _ _ _ _ _ _ _ _ _ _ _

theorem money_eq (f0 f1 G f3 f4 f5 f6 : ByteArray) (b0 b1 : Bool) (l : List Int) (sec : Int) (t : ByteArray) (h6 : f6.size ≤ 3) (ht : t.size ≤ 1000) :
    ∃ x, locale_Locale_Money.f f0 f1 G f3 f4 f5 f6 b0 b1 l t = some x ∧ tabardref11_Locale_Money.f f0 f1 G f3 f4 f5 f6 b0 b1 sec t = some x := by
  have e2 : (⟨#[194, 160]⟩ : ByteArray).size = 2 := rfl
  have e0 : (⟨#[]⟩ : ByteArray).size = 0 := rfl
  have hx : ∃ x, locale_Locale_Money.f f0 f1 G f3 f4 f5 f6 b0 b1 l t = some x := by
    unfold locale_Locale_Money.f
    simp only [ByteArray.size_append, e2, e0]
    cases b1 <;> cases b0 <;> simp only [if_true, if_false, Bool.false_eq_true]
    · rw [if_pos (by omega), if_pos (by omega)]; exact ⟨_, rfl⟩
    · rw [if_pos (by omega), if_pos (by omega)]; exact ⟨_, rfl⟩
    · rw [if_pos (by omega), if_pos (by omega)]; exact ⟨_, rfl⟩
    · rw [if_pos (by omega), if_pos (by omega)]; exact ⟨_, rfl⟩
  obtain ⟨x, hx⟩ := hx
  exact ⟨x, hx, hx⟩

theorem writes_true (a0 : Int) (neg : Bool) (d : ByteArray) (e : Int) (g : Bool) (t : ByteArray) (hlo : -9223372036854775808 ≤ a0) (hhi : a0 ≤ 9223372036854775807) : tabardlaw11_LocaleWrites.f 10000 a0 neg d e g t = some true := by
  unfold tabardlaw11_LocaleWrites.f
  rw [shown_big (by decide), Option.bind_some, if_pos rfl]
  by_cases h1 : (d.size : Int) > 1200
  · rw [if_pos h1]
  rw [if_neg h1]
  by_cases h2 : (t.size : Int) > 1000
  · rw [if_pos h2]
  rw [if_neg h2]
  obtain ⟨f0, f1, G, f3, f4, f5, f6, b0, b1, l, sec, hl, hG, hf, hd1, _, _, hd4, h6⟩ := find_right a0 hlo hhi
  have hs1 : f1.size ≤ 100 := by rcases hd1 with rfl | rfl <;> decide
  have hs4 : f4.size ≤ 100 := by rcases hd4 with rfl | rfl <;> decide
  rw [hf, Option.bind_some]
  simp only []
  obtain ⟨x, hx, hy⟩ := write_eq hl f0 f1 G f3 f4 f5 f6 b0 b1 hG hs1 hs4 neg d e (by omega) g
  obtain ⟨z, hz, hu⟩ := money_eq f0 f1 G f3 f4 f5 f6 b0 b1 l sec t h6 (by omega)
  rw [hx, Option.bind_some, hy, Option.bind_some, if_pos rfl, hz, Option.bind_some, hu, Option.bind_some]
  rw [beq_self_eq_true]
theorem writes_ex (a0 : Int) (neg : Bool) (d : ByteArray) (e : Int) (g : Bool) (t : ByteArray) (hlo : -9223372036854775808 ≤ a0) (hhi : a0 ≤ 9223372036854775807) : ∃ k, tabardlaw11_LocaleWrites.f k a0 neg d e g t = some true := ⟨10000, writes_true a0 neg d e g t hlo hhi⟩
end Go.Proofs.YtmbhjogohfcjgaaDoor.Lm
