/- The printed Plain of the program and of the reference are one plain function; digitsAll. -/
import Derived.Test.YtmbhjogohfcjgaaDoorLm2
import Derived.Test.YtmbhjogohfcjgaaDoorL10
import Derived.Lib.LazyBuf
namespace Go.Proofs.YtmbhjogohfcjgaaDoor.Lm
open Go.RowKit Go.Proofs.YtmbhjogohfcjgaaDoorW.PrintWords Go.Proofs.YtmbhjogohfcjgaaDoorW.PrintLast Go.Proofs.YtmbhjogohfcjgaaDoorW.PrintMore Go.Proofs.YtmbhjogohfcjgaaDoor.L
set_option linter.unusedVariables false
set_option linter.unusedSimpArgs false

/-- A group's mark: a text that is not empty, short, and does not begin with a digit. -/
structure Gm (G : ByteArray) : Prop where
  pos : 1 ≤ G.size
  le : G.size ≤ 3
  nd : ∀ c t, by_ G = c :: t → isDig c = false
theorem Gm.ne {G : ByteArray} (h : Gm G) : by_ G ≠ [] := fun e => by have := h.pos; rw [← by_len, e] at this; simp at this

/-- What is left of a row behind the scan. -/
def fin (G : List UInt8) (sec : Nat) (x A : List UInt8) (mk : Bool) : List UInt8 × Bool :=
  if A = [] then ([], false) else if mk = true ∧ ¬ grp G sec 0 true A = x then ([], false) else (A, true)
/-- Plain. -/
def plainR (G : List UInt8) (sec : Nat) (x : List UInt8) : List UInt8 × Bool :=
  match scan isDig G (x.length + 1) x with
  | none => ([], false)
  | some (o, m) => fin G sec x o m

theorem dig_eq (c : UInt8) : tabardref11_digit.f (c.toNat : Int) = some (isDig c) := by
  unfold tabardref11_digit.f isDig
  by_cases h : 48 ≤ c.toNat
  · rw [if_pos (by omega), decide_eq_true h, Bool.true_and]
    congr 1
    exact decide_eq_decide.2 (by omega)
  · rw [if_neg (by omega), decide_eq_false h]
    rfl

theorem strOf (A : List UInt8) : strOfNums (A.map fun c => (c.toNat : Int)) = tx A := by unfold strOfNums; rw [List.map_map]; congr 2; exact (List.map_congr_left (fun c _ => by simp)).trans (List.map_id A)

theorem isDig_g {G : ByteArray} (hG : Gm G) {c : UInt8} {t : List UInt8} (h : isDig c = true) : (by_ G).isPrefixOf (c :: t) = false := by
  cases hg : by_ G with
  | nil => exact absurd hg hG.ne
  | cons x r =>
    have := hG.nd x r hg
    simp only [List.isPrefixOf_cons_cons, Bool.and_eq_false_iff]
    left
    rw [beq_eq_false_iff_ne]
    rintro rfl
    rw [this] at h; exact absurd h (by simp)

theorem ref_plain {sec : Nat} (h0 : 0 < sec) (h3 : sec ≤ 3) (f0 f1 G f3 f4 f5 f6 : ByteArray) (b0 b1 : Bool) (hG : Gm G) (x : ByteArray) (hx : x.size ≤ 1000000) : ∀ (n k i : Nat) (A : List UInt8) (mk : Bool), x.size - i < n → n + x.size + 2 ≤ k → i ≤ x.size → A.length ≤ i →
    tabardref11_Locale_Plain.l0 k x (A.map fun c => (c.toNat : Int)) mk (i : Int) f0 f1 G f3 f4 f5 f6 b0 b1 (sec : Int) =
      (match scan isDig (by_ G) n ((by_ x).drop i) with
       | none => some (tx [], false)
       | some (o, m) => some (tx (fin (by_ G) sec (by_ x) (A ++ o) (mk || m)).1, (fin (by_ G) sec (by_ x) (A ++ o) (mk || m)).2)) := by
  intro n
  induction n with
  | zero => intro k i A mk h; omega
  | succ n ih =>
    intro k i A mk hn hk hi hA
    obtain ⟨k, rfl⟩ : ∃ m, k = m + 1 := ⟨k - 1, by omega⟩
    simp only [tabardref11_Locale_Plain.l0]
    by_cases hlt : i < x.size
    · have e2 : wrap64 ((i : Int) + 1) = ((i + 1 : Nat) : Int) := by unfold wrap64; omega
      have eG : wrap64 ((i : Int) + (G.size : Int)) = ((i + G.size : Nat) : Int) := by have := hG.le; unfold wrap64; omega
      rw [if_pos (show (i : Int) < (x.size : Int) by omega), if_pos (show (0 : Int) ≤ (i : Int) by omega), bt_by x i hlt, dig_eq, Option.bind_some, drop_cons x i hlt]
      simp only [e2, eG]
      simp only [Int.toNat_natCast, scan]
      by_cases hd : isDig ((by_ x)[i]'(by rw [by_len]; exact hlt)) = true
      · rw [if_pos hd, if_pos hd, if_pos (show (A.map fun c => (c.toNat : Int)).length < 140737488355328 by rw [List.length_map]; omega)]
        have ea : (A.map fun c => (c.toNat : Int)) ++ [(((by_ x)[i]'(by rw [by_len]; exact hlt)).toNat : Int)] = (A ++ [((by_ x)[i]'(by rw [by_len]; exact hlt))]).map fun c => (c.toNat : Int) := by simp
        rw [ea, ih k (i + 1) _ mk (by omega) (by omega) (by omega) (by simp; omega)]
        cases scan isDig (by_ G) n ((by_ x).drop (i + 1)) with
        | none => rfl
        | some p => simp
      · rw [if_neg hd, if_neg hd]
        have hpre : (by_ G).isPrefixOf (((by_ x)[i]'(by rw [by_len]; exact hlt)) :: (by_ x).drop (i + 1)) = decide (i + G.size ≤ x.size ∧ ((by_ x).drop i).take G.size = by_ G) := by
          rw [← drop_cons x i hlt, Bool.eq_iff_iff, decide_eq_true_iff, List.isPrefixOf_iff_prefix, List.prefix_iff_eq_take, by_len]
          constructor
          · intro h
            have hl := congrArg List.length h
            rw [by_len, List.length_take, List.length_drop, by_len] at hl
            exact ⟨by omega, h.symm⟩
          · intro h; exact h.2.symm
        rw [hpre]
        by_cases hg : i + G.size ≤ x.size
        · have hex : (x.extract i (i + G.size)).toList = ((by_ x).drop i).take G.size := by
            rw [toList_by, by_extract]
            have : i + G.size - i = G.size := by omega
            rw [this]
          rw [if_neg (show ¬ ((i + G.size : Nat) : Int) > (x.size : Int) by omega), if_pos (show (i : Int) ≤ ((i + G.size : Nat) : Int) by omega), if_pos (show ((i + G.size : Nat) : Int) ≤ (x.size : Int) by omega)]
          simp only [hex, toList_by G]
          by_cases he : ((by_ x).drop i).take G.size = by_ G
          · have hp := hG.pos
            rw [if_pos he, if_pos (decide_eq_true ⟨hg, he⟩), ih k (i + G.size) A true (by omega) (by omega) (by omega) (by omega)]
            have ed : (((by_ x)[i]'(by rw [by_len]; exact hlt)) :: (by_ x).drop (i + 1)).drop (by_ G).length = (by_ x).drop (i + G.size) := by
              obtain ⟨g', hg'⟩ : ∃ g', G.size = g' + 1 := ⟨G.size - 1, by omega⟩
              rw [by_len G, hg', List.drop_succ_cons, List.drop_drop]
              congr 1
              omega
            rw [ed]
            cases scan isDig (by_ G) n ((by_ x).drop (i + G.size)) with
            | none => rfl
            | some p => simp
          · rw [if_neg he, if_neg (by rw [decide_eq_true_iff]; exact fun h => he h.2)]
        · rw [if_pos (show ((i + G.size : Nat) : Int) > (x.size : Int) by omega), if_neg (by rw [decide_eq_true_iff]; exact fun h => hg h.1)]
    · rw [if_neg (show ¬ (i : Int) < (x.size : Int) by omega), List.drop_of_length_le (by rw [by_len]; omega)]
      simp only [scan, List.append_nil, Bool.or_false]
      by_cases ha : A = []
      · subst ha
        rw [if_pos (by simp)]
        rfl
      · have hal : 0 < A.length := List.length_pos_iff.2 ha
        rw [if_neg (show ¬ ((A.map fun c => (c.toNat : Int)).length : Int) = 0 by rw [List.length_map]; omega), strOf]
        have hts : (tx A).size = A.length := by rw [← by_len]
        cases mk with
        | false => simp [fin, ha]
        | true =>
          rw [if_pos rfl]
          have hgr : tabardref11_Locale_Grouped.f k f0 f1 G f3 f4 f5 f6 b0 b1 (sec : Int) (tx A) = some (tx (grp (by_ G) sec 0 true A)) := by
            have := ref_grouped h0 h3 f0 f1 G f3 f4 f5 f6 b0 b1 hG.le A.length k 0 (tx A) ⟨#[]⟩ (by rw [hts]; omega) (by omega) (by omega) (by rw [hts]; omega) (by rw [hts]; show 0 + _ ≤ _; omega)
            unfold tabardref11_Locale_Grouped.f
            rw [show (0 : Int) = ((0 : Nat) : Int) from rfl, this]
            rfl
          rw [hgr, Option.bind_some, toList_by, toList_by]
          unfold fin
          rw [if_neg ha]
          by_cases he : grp (by_ G) sec 0 true A = by_ x
          · rw [if_pos he, if_neg (by simp [he])]
          · rw [if_neg he, if_pos ⟨rfl, he⟩]

theorem ref_plain_f {sec : Nat} (h0 : 0 < sec) (h3 : sec ≤ 3) (f0 f1 G f3 f4 f5 f6 : ByteArray) (b0 b1 : Bool) (hG : Gm G) (x : ByteArray) (hx : x.size ≤ 1000000) (k : Nat) (hk : 2 * x.size + 3 ≤ k) :
    tabardref11_Locale_Plain.f k f0 f1 G f3 f4 f5 f6 b0 b1 (sec : Int) x = some (tx (plainR (by_ G) sec (by_ x)).1, (plainR (by_ G) sec (by_ x)).2) := by
  have := ref_plain h0 h3 f0 f1 G f3 f4 f5 f6 b0 b1 hG x hx (x.size + 1) k 0 [] false (by omega) (by omega) (by omega) (by simp)
  unfold tabardref11_Locale_Plain.f plainR
  rw [show (0 : Int) = ((0 : Nat) : Int) from rfl, show ([] : List Int) = ([] : List UInt8).map fun c => (c.toNat : Int) from rfl, this, by_len]
  simp only [List.drop_zero, List.nil_append, Bool.false_or]
  cases scan isDig (by_ G) (x.size + 1) (by_ x) with
  | none => rfl
  | some p => rfl

theorem ten_dig (c : UInt8) : ([48, 49, 50, 51, 52, 53, 54, 55, 56, 57] : List UInt8).contains c = isDig c := by
  rw [Bool.eq_iff_iff]
  constructor
  · intro h
    simp only [List.contains_iff_mem, List.mem_cons, List.not_mem_nil, or_false] at h
    rcases h with rfl | rfl | rfl | rfl | rfl | rfl | rfl | rfl | rfl | rfl <;> decide
  · intro h
    simp only [isDig, Bool.and_eq_true, decide_eq_true_eq] at h
    have hc : ∀ n : Nat, c.toNat = n → n < 256 → c = UInt8.ofNat n := fun n hn _ => by rw [← hn]; simp
    have h1 : c.toNat = 48 ∨ c.toNat = 49 ∨ c.toNat = 50 ∨ c.toNat = 51 ∨ c.toNat = 52 ∨ c.toNat = 53 ∨ c.toNat = 54 ∨ c.toNat = 55 ∨ c.toNat = 56 ∨ c.toNat = 57 := by omega
    rcases h1 with h | h | h | h | h | h | h | h | h | h <;> (rw [hc _ h (by decide)]; decide)

theorem rep_len {g : List UInt8} (hg : g ≠ []) : ∀ (n : Nat) (s : List UInt8), s.length ≤ n → (Lib.replaceAll s g []).length ≤ s.length := by
  intro n
  induction n with
  | zero =>
    intro s h
    have : s = [] := List.eq_nil_of_length_eq_zero (by omega)
    subst this
    rw [rep_nil g hg]
    exact Nat.le_refl _
  | succ n ih =>
    intro s h
    cases s with
    | nil => rw [rep_nil g hg]; exact Nat.le_refl _
    | cons c s =>
      simp only [List.length_cons] at h
      by_cases hp : g.isPrefixOf (c :: s) = true
      · obtain ⟨r, hr⟩ := List.isPrefixOf_iff_prefix.1 hp
        have hl : (c :: s).length = g.length + r.length := by rw [← hr]; simp
        have hgl : 0 < g.length := List.length_pos_iff.2 hg
        simp only [List.length_cons] at hl
        rw [← hr, rep_hit hg, List.length_append]
        have := ih r (by omega)
        omega
      · rw [Bool.not_eq_true] at hp
        rw [rep_miss hg c s hp, List.length_cons, List.length_cons]
        have := ih s (by omega)
        omega
theorem dropWhile_nil {p : UInt8 → Bool} : ∀ l : List UInt8, l.dropWhile p = [] ↔ ∀ c ∈ l, p c = true
  | [] => by simp
  | c :: l => by
    rw [List.dropWhile_cons]
    by_cases h : p c = true
    · rw [if_pos h, dropWhile_nil l]; simp [h]
    · rw [if_neg h]; simp [h]
theorem trim_nil {l cs : List UInt8} (h : ∀ c ∈ l, cs.contains c = true) : Lib.trimS l cs = [] := by
  have e : Lib.trimRightS l cs = [] := by
    unfold Lib.trimRightS
    rw [List.reverse_eq_nil_iff, dropWhile_nil]
    intro c hc
    exact h c (by simpa using hc)
  unfold Lib.trimS
  rw [e]
  rfl
theorem trim_some {l cs : List UInt8} {c : UInt8} (hc : c ∈ l) (h : cs.contains c = false) : Lib.trimS l cs ≠ [] := by
  have hm : c ∈ Lib.trimRightS l cs := by
    unfold Lib.trimRightS
    rw [List.mem_reverse]
    have : c ∈ l.reverse.takeWhile (cs.contains ·) ++ l.reverse.dropWhile (cs.contains ·) := by rw [List.takeWhile_append_dropWhile]; simpa using hc
    rcases List.mem_append.1 this with h1 | h1
    · have := List.all_takeWhile (p := (cs.contains ·)) (l := l.reverse)
      rw [List.all_eq_true] at this
      have := this c h1
      rw [h] at this; exact absurd this (by simp)
    · exact h1
  unfold Lib.trimS Lib.trimLeftS
  intro e
  rw [dropWhile_nil] at e
  have := e c hm
  rw [h] at this
  exact absurd this (by simp)

theorem prog_plain {l : List Int} {sec : Nat} (h : Szs l sec) (f0 f1 G f3 f4 f5 f6 : ByteArray) (b0 b1 : Bool) (hG : Gm G) (x : ByteArray) (hx : x.size ≤ 900000) (k : Nat) (hk : x.size + 3 ≤ k) :
    locale_Locale_Plain.f k f0 f1 G f3 f4 f5 f6 b0 b1 l x = some (tx (plainR (by_ G) sec (by_ x)).1, (plainR (by_ G) sec (by_ x)).2) := by
  obtain ⟨k, rfl⟩ : ∃ m, k = m + 1 := ⟨k - 1, by omega⟩
  have hp := hG.pos
  have hr : strings_ReplaceAll.f x G ⟨#[]⟩ = some (tx (Lib.replaceAll (by_ x) (by_ G) [])) := by
    unfold strings_ReplaceAll.f
    rw [if_pos ⟨by omega, hp, by show x.size + _ * 0 ≤ _; omega⟩]
  obtain ⟨D, hD⟩ : ∃ D, Lib.replaceAll (by_ x) (by_ G) [] = D := ⟨_, rfl⟩
  unfold locale_Locale_Plain.f
  rw [hr, hD, Option.bind_some]
  have htD : (tx D).toList = D := by rw [toList_by]
  have j0t : ∀ y, locale_Locale_Plain.j0 (k + 1) x y true f0 f1 G f3 f4 f5 f6 b0 b1 l = some (tx [], false) := fun y => by simp only [locale_Locale_Plain.j0]; rfl
  have htrim : D.length ≤ 900000 → strings_Trim.f (tx D) ⟨#[48, 49, 50, 51, 52, 53, 54, 55, 56, 57]⟩ = some (tx (Lib.trimS D [48, 49, 50, 51, 52, 53, 54, 55, 56, 57])) := fun hl => by
    unfold strings_Trim.f
    rw [if_pos ⟨by rw [← by_len]; show D.length ≤ _; omega, by decide, by decide⟩]
  have hDl : D.length ≤ x.size := by
    rw [← hD, ← by_len]
    exact rep_len hG.ne (by_ x).length (by_ x) (Nat.le_refl _)
  rw [htD]
  unfold plainR
  rw [by_len]
  cases hs : scan isDig (by_ G) (x.size + 1) (by_ x) with
  | none =>
    have hnd := scan_none hG.ne hG.nd (x.size + 1) (by_ x) (by rw [by_len]; omega) hs
    rw [hD] at hnd
    have hne : ¬ D = [] := by rintro rfl; simp at hnd
    rw [if_neg hne, htrim (by omega), Option.bind_some]
    obtain ⟨c, hc, hcd⟩ := List.all_eq_false.1 hnd
    have ht := trim_some (cs := [48, 49, 50, 51, 52, 53, 54, 55, 56, 57]) hc (by rw [ten_dig]; simpa using hcd)
    have e : ((tx (Lib.trimS D [48, 49, 50, 51, 52, 53, 54, 55, 56, 57])).toList != ([] : List UInt8)) = true := by rw [toList_by]; simpa using ht
    rw [e]
    exact j0t _
  | some p =>
    obtain ⟨o, m⟩ := p
    obtain ⟨h1, h2, h3, h4⟩ := scan_some hG.ne hG.nd (x.size + 1) (by_ x) o m hs
    rw [hD] at h1
    subst h1
    by_cases hne : D = []
    · subst hne
      rw [if_pos rfl]
      exact j0t _
    · rw [if_neg hne, htrim (by omega), Option.bind_some]
      have ht : Lib.trimS D [48, 49, 50, 51, 52, 53, 54, 55, 56, 57] = [] := trim_nil fun c hc => by rw [ten_dig]; exact List.all_eq_true.1 h2 c hc
      rw [ht]
      have e : ((tx []).toList != ([] : List UInt8)) = false := by rw [toList_by]; rfl
      rw [e]
      simp only [locale_Locale_Plain.j0]
      rw [if_neg (by simp), htD, toList_by x]
      simp only [fin]
      rw [if_neg hne]
      cases m with
      | false =>
        rw [if_pos (h3 rfl)]
        simp
      | true =>
        have hlt := h4 rfl
        rw [if_neg (fun e => by rw [e] at hlt; omega)]
        have hgr : locale_Locale_Grouped.f k f0 f1 G f3 f4 f5 f6 b0 b1 l (tx D) = some (tx (grp (by_ G) sec 0 true D)) := by
          have hts : (tx D).size = D.length := by rw [← by_len]
          have := prog_grouped h f0 f1 G f3 f4 f5 f6 b0 b1 hG.le k 0 (tx D) ⟨#[]⟩ (by rw [hts]; omega) (by rw [hts]; show _ + 0 ≤ _; omega) (by rw [hts]; omega)
          unfold locale_Locale_Grouped.f
          rw [show (0 : Int) = ((0 : Nat) : Int) from rfl, this, cutg_eq _ _ h.pos.1 _ _ _ _ (by show D.length < k; omega)]
          show some (tx (grp _ _ 0 true D ++ [])) = _
          rw [List.append_nil]
        rw [hgr, Option.bind_some, toList_by]
        by_cases he : grp (by_ G) sec 0 true D = by_ x
        · rw [if_pos he, if_neg (by simp [he])]
        · rw [if_neg he, if_pos ⟨rfl, he⟩]

theorem dall (x : ByteArray) (hx : x.size ≤ 1000000) : ∀ (d k i : Nat), x.size - i = d → d < k → i ≤ x.size → tabardlaw11_digitsAll.l0 k x (i : Int) = some (((by_ x).drop i).all isDig) := by
  intro d
  induction d with
  | zero =>
    intro k i hd hk hi
    obtain ⟨k, rfl⟩ : ∃ m, k = m + 1 := ⟨k - 1, by omega⟩
    simp only [tabardlaw11_digitsAll.l0]
    rw [if_neg (by omega), List.drop_of_length_le (by rw [by_len]; omega)]
    rfl
  | succ d ih =>
    intro k i hd hk hi
    obtain ⟨k, rfl⟩ : ∃ m, k = m + 1 := ⟨k - 1, by omega⟩
    have hlt : i < x.size := by omega
    have e2 : wrap64 ((i : Int) + 1) = ((i + 1 : Nat) : Int) := by unfold wrap64; omega
    simp only [tabardlaw11_digitsAll.l0]
    rw [if_pos (show (i : Int) < (x.size : Int) by omega), if_pos (show (0 : Int) ≤ (i : Int) by omega), bt_by x i hlt, drop_cons x i hlt, List.all_cons, e2, ih k (i + 1) (by omega) (by omega) (by omega)]
    generalize ((by_ x)[i]'(by rw [by_len]; exact hlt)) = c
    unfold isDig
    by_cases h1 : 48 ≤ c.toNat
    · rw [if_neg (by omega)]
      by_cases h2 : c.toNat ≤ 57
      · rw [if_neg (by omega), decide_eq_true h1, decide_eq_true h2, Bool.true_and, Bool.true_and]
      · rw [if_pos (by omega), decide_eq_false h2, Bool.and_false, Bool.false_and]
    · rw [if_pos (by omega), decide_eq_false h1, Bool.false_and, Bool.false_and]

/-- What was grouped is plain again. -/
theorem plain_of_grouped {G : ByteArray} (hG : Gm G) (sec : Nat) (d : List UInt8) (hd : d.all isDig = true) : plainR (by_ G) sec (grp (by_ G) sec 0 true d) = (d, !d.isEmpty) := by
  unfold plainR
  obtain ⟨m, hm⟩ := scan_grp hG.ne hG.nd sec 0 d true _ hd (Nat.lt_succ_self _)
  rw [hm]
  simp only [fin]
  by_cases h : d = []
  · subst h; rfl
  · rw [if_neg h, if_neg (by simp)]
    cases d with
    | nil => exact absurd rfl h
    | cons a b => rfl
end Go.Proofs.YtmbhjogohfcjgaaDoor.Lm
