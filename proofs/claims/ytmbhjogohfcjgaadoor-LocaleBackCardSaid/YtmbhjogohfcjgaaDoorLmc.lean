/- LocaleBack, as a law of the printed functions: it is true of every number and every decimal. -/
import Derived.Test.YtmbhjogohfcjgaaDoorLm9
namespace Go.Proofs.YtmbhjogohfcjgaaDoor.Lm
open Go.RowKit Go.Proofs.YtmbhjogohfcjgaaDoorW.PrintWords Go.Proofs.YtmbhjogohfcjgaaDoorW.PrintLast Go.Proofs.YtmbhjogohfcjgaaDoorW.PrintMore Go.Proofs.YtmbhjogohfcjgaaDoor.L
set_option linter.unusedVariables false
set_option linter.unusedSimpArgs false

theorem good_dig {d : ByteArray} {e : Int} (h : goodD d e = true) : (by_ d).all isDig = true ∧ (d.size ≠ 0 → (by_ d).getD 0 0 ≠ 48 ∧ (by_ d).getD (d.size - 1) 0 ≠ 48) := by
  unfold goodD at h
  by_cases h0 : d.size = 0
  · have hn : by_ d = [] := List.eq_nil_of_length_eq_zero (by rw [by_len]; exact h0)
    exact ⟨by rw [hn]; rfl, fun hh => absurd h0 hh⟩
  · rw [if_neg h0] at h
    simp only [Bool.and_eq_true, Bool.not_eq_true', beq_eq_false_iff_ne] at h
    exact ⟨h.2.1, fun _ => ⟨h.2.2.1, h.2.2.2⟩⟩
theorem whole_dig {d : List UInt8} (h : d.all isDig = true) (P : Int) : (wholeD d P).all isDig = true := by
  unfold wholeD
  by_cases hP : P ≤ 0
  · rw [if_pos hP]; decide
  · rw [if_neg hP, List.all_append, Bool.and_eq_true]
    refine ⟨List.all_eq_true.2 fun x hx => List.all_eq_true.1 h x (List.mem_of_mem_take hx), List.all_eq_true.2 fun x hx => ?_⟩
    rw [(List.mem_replicate.1 hx).2]; decide
theorem rest_dig {d : List UInt8} (h : d.all isDig = true) (P : Int) : (restD d P).all isDig = true := by
  unfold restD
  rw [List.all_append, Bool.and_eq_true]
  refine ⟨List.all_eq_true.2 fun x hx => ?_, List.all_eq_true.2 fun x hx => List.all_eq_true.1 h x (List.mem_of_mem_drop hx)⟩
  rw [(List.mem_replicate.1 hx).2]; decide
theorem both_D (d : List UInt8) (P : Int) : wholeD d P ++ restD d P = List.replicate (if P ≤ 0 then (-P).toNat + 1 else 0) 48 ++ (d ++ List.replicate (P.toNat - d.length) 48) := by
  unfold wholeD restD
  by_cases hP : P ≤ 0
  · rw [if_pos hP, if_pos hP, show P.toNat = 0 by omega, List.drop_zero, Nat.zero_sub, List.replicate_zero, List.append_nil, List.replicate_succ]
    rfl
  · rw [if_neg hP, if_neg hP, show (-P).toNat = 0 by omega, List.replicate_zero, List.nil_append, List.nil_append]
    by_cases h : P.toNat ≤ d.length
    · rw [show P.toNat - d.length = 0 by omega, List.replicate_zero, List.append_nil, List.append_nil, List.take_append_drop]
    · rw [List.take_of_length_le (by omega), List.drop_of_length_le (by omega), List.append_nil]
theorem whole_ne (d : List UInt8) (P : Int) : (wholeD d P).isEmpty = false := by
  unfold wholeD
  by_cases hP : P ≤ 0
  · rw [if_pos hP]; rfl
  · rw [if_neg hP]
    cases h : d.take P.toNat ++ List.replicate (P.toNat - d.length) 48
    · have := congrArg List.length h
      rw [List.length_append, List.length_take, List.length_replicate, List.length_nil] at this
      omega
    · rfl

/-- What is written without its sign, read again. -/
theorem back_main {l : List Int} {sec : Nat} (hl : Szs l sec) (f0 : ByteArray) (c : UInt8) (G f3 f4 f5 f6 : ByteArray) (b0 b1 : Bool) (hG : Gm G) (hc : isDig c = false) (hcG : c ∉ by_ G) (n : Bool) (d : ByteArray) (e : Int) (hd : d.size ≤ 200) (hg : goodD d e = true)
    (hP1 : pointD d e ≤ 300) (hP2 : -100 ≤ pointD d e) (S : ByteArray) (hS : by_ S = grp (by_ G) sec 0 true (wholeD (by_ d) (pointD d e)) ++ (if restD (by_ d) (pointD d e) = [] then [] else c :: restD (by_ d) (pointD d e))) (k : Nat) (hk : 20000 ≤ k) :
    tabardlaw11_LocaleBack.j1 k S n d e f0 (tx [c]) G f3 f4 f5 f6 b0 b1 l = some true := by
  obtain ⟨hdig, hends⟩ := good_dig hg
  have hb := good_b hg
  have hP : pointD d e = d.size + e := by unfold pointD; rw [if_pos hg]
  generalize pointD d e = P at *
  have hld := by_len d
  have hwd := whole_dig hdig P
  have hrd := rest_dig hdig P
  have hwn := whole_ne (by_ d) P
  have hboth := both_D (by_ d) P
  have hwl : (wholeD (by_ d) P).length ≤ 301 := by
    unfold wholeD
    by_cases h' : P ≤ 0
    · rw [if_pos h']; simp
    · rw [if_neg h']; simp; omega
  have hrl : (restD (by_ d) P).length = (-P).toNat + (d.size - P.toNat) := by
    unfold restD
    simp only [List.length_append, List.length_replicate, List.length_drop, hld]
  have hrlast : restD (by_ d) P ≠ [] → (restD (by_ d) P).getD ((restD (by_ d) P).length - 1) 0 ≠ 48 := by
    intro hne
    have h0 : (restD (by_ d) P).length ≠ 0 := fun h => hne (List.eq_nil_of_length_eq_zero h)
    have hn0 : d.size ≠ 0 := by intro h; have := hb.2.2 h; omega
    have hlt : P.toNat < d.size := by omega
    rw [hrl]
    unfold restD
    rw [getD_app, if_neg (by simp; omega), List.length_replicate]
    have : ((by_ d).drop P.toNat).getD ((-P).toNat + (d.size - P.toNat) - 1 - (-P).toNat) 0 = (by_ d).getD (d.size - 1) 0 := by
      simp only [List.getD, List.getElem?_drop]
      rw [show P.toNat + ((-P).toNat + (d.size - P.toNat) - 1 - (-P).toNat) = d.size - 1 by omega]
    rw [this]
    exact (hends hn0).2
  generalize hg_ : grp (by_ G) sec 0 true (wholeD (by_ d) P) = g at hS
  have hgl : g.length ≤ 4000 := by
    rw [← hg_]
    refine Nat.le_trans (grp_len (by_ G) sec 0 true _) ?_
    have h3 := hG.le
    rw [by_len]
    exact Nat.le_trans (Nat.mul_le_mul hwl (show G.size + 1 ≤ 4 by omega)) (by decide)
  have hgc : ∀ x ∈ g, x ≠ c := by
    intro x hx h
    subst h
    rw [← hg_] at hx
    rcases grp_mem _ _ _ _ _ _ hx with h | h
    · exact hcG h
    · rw [List.all_eq_true.1 hwd _ h] at hc; cases hc
  have hplain : plainR (by_ G) sec g = (wholeD (by_ d) P, true) := by
    rw [← hg_, plain_of_grouped hG sec _ hwd, hwn]; rfl
  obtain ⟨k, rfl⟩ : ∃ m, k = m + 1 := ⟨k - 1, by omega⟩
  simp only [tabardlaw11_LocaleBack.j1]
  have hgi : ∀ i, i < g.length → (by_ S).getD i 0 ≠ c := fun i hi => by
    rw [hS, getD_app, if_pos hi]
    exact hgc _ (getD_mem g i hi 0)
  by_cases hr : restD (by_ d) P = []
  · -- no sign
    rw [if_pos hr, List.append_nil] at hS
    have hsz : S.size = g.length := by rw [← by_len, hS]
    obtain ⟨j, rfl⟩ : ∃ j, k = S.size + 1 + (j + 1) := ⟨k - (S.size + 2), by omega⟩
    rw [show (0 : Int) = ((0 : Nat) : Int) from rfl, back_l0 c S (by omega) S.size (Nat.le_refl _) (by rw [hsz]; exact hgi) (fun h => absurd h (Nat.lt_irrefl _)) n d e f0 G f3 f4 f5 f6 b0 b1 l S.size 0 (j + 1) (by omega) (by omega)]
    have hx : by_ (S.extract 0 S.size) = g := by rw [by_extract, hS]; simp [hsz]
    refine back_eq c S (by omega) n d e f0 G f3 f4 f5 f6 b0 b1 l j (wholeD (by_ d) P) (by omega) ?_ ?_ ?_
    · rw [prog_plain hl f0 (tx [c]) G f3 f4 f5 f6 b0 b1 hG _ (by rw [← by_len, hx]; omega) j (by rw [← by_len, hx]; omega), hx, hplain]
    · exact dall (⟨#[]⟩ : ByteArray) (by decide) 0 j 0 rfl (by omega) (by decide)
    · have hX : by_ (tx (wholeD (by_ d) P) ++ (⟨#[]⟩ : ByteArray)) = List.replicate (if P ≤ 0 then (-P).toNat + 1 else 0) 48 ++ (by_ d ++ List.replicate (P.toNat - d.size) 48) := by
        rw [by_app, ← hld, ← hboth, hr]
      rw [hr] at hrl
      simp only [List.length_nil] at hrl
      rw [make_zz n d _ (P.toNat - d.size) (-0) (by split <;> omega) (by omega) (by omega) (by omega) (by intro h; have := hb.2.2 h; omega) hdig hends _ hX j (by omega)]
      congr 3
      by_cases h0 : d.size = 0
      · rw [if_pos h0, hb.2.2 h0]
      · rw [if_neg h0]; congr 1; omega
  · rw [if_neg hr] at hS
    have hsz : S.size = g.length + ((restD (by_ d) P).length + 1) := by rw [← by_len, hS]; simp
    obtain ⟨j, rfl⟩ : ∃ j, k = g.length + 1 + (j + 1) := ⟨k - (g.length + 2), by omega⟩
    rw [show (0 : Int) = ((0 : Nat) : Int) from rfl, back_l0 c S (by omega) g.length (by omega) hgi (fun _ => by rw [hS, getD_app, if_neg (Nat.lt_irrefl _), Nat.sub_self]; rfl) n d e f0 G f3 f4 f5 f6 b0 b1 l g.length 0 (j + 1) (by omega) (by omega)]
    have hx : by_ (S.extract 0 g.length) = g := by rw [by_extract, hS]; simp
    have hx2 : S.extract (g.length + 1) S.size = tx (restD (by_ d) P) := by
      apply by_ext
      rw [by_extract, hS, show g.length + 1 = (g ++ [c]).length by simp, show g ++ c :: restD (by_ d) P = (g ++ [c]) ++ restD (by_ d) P by simp, List.drop_left, List.take_of_length_le (by simp; omega)]
    have hts : (tx (restD (by_ d) P)).size = (restD (by_ d) P).length := by rw [← by_len]
    refine back_lt c S (by omega) g.length (by omega) n d e f0 G f3 f4 f5 f6 b0 b1 l j (wholeD (by_ d) P) (tx (restD (by_ d) P)) (by omega) ?_ hx2 ?_ ?_ ?_ ?_
    · rw [prog_plain hl f0 (tx [c]) G f3 f4 f5 f6 b0 b1 hG _ (by rw [← by_len, hx]; omega) j (by rw [← by_len, hx]; omega), hx, hplain]
    · have := dall (tx (restD (by_ d) P)) (by omega) (tx (restD (by_ d) P)).size j 0 (by omega) (by omega) (by omega)
      rw [List.drop_zero, show by_ (tx (restD (by_ d) P)) = restD (by_ d) P from rfl, hrd] at this
      exact this
    · have hX : by_ (tx (wholeD (by_ d) P) ++ tx (restD (by_ d) P)) = List.replicate (if P ≤ 0 then (-P).toNat + 1 else 0) 48 ++ (by_ d ++ List.replicate (P.toNat - d.size) 48) := by
        rw [by_app, ← hld, ← hboth]
      rw [make_zz n d _ (P.toNat - d.size) _ (by split <;> omega) (by omega) (by omega) (by omega) (by intro h; have := hb.2.2 h; omega) hdig hends _ hX j (by omega)]
      congr 3
      by_cases h0 : d.size = 0
      · rw [if_pos h0, hb.2.2 h0]
      · rw [if_neg h0]; congr 1; omega
    · intro h
      exact hr (List.eq_nil_of_length_eq_zero (by omega))
    · rw [hts]
      exact hrlast hr
end Go.Proofs.YtmbhjogohfcjgaaDoor.Lm
