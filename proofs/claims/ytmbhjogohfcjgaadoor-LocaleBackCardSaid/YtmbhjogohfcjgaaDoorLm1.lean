/- Plain laws of chapter 11: grouping digits and taking the marks away again (lists of bytes; no program). -/
import Derived.Lib.Replace
set_option linter.unusedVariables false
set_option linter.unusedSimpArgs false
namespace Go.Proofs.YtmbhjogohfcjgaaDoor.Lm
open Go.Lib

/-- strings.ReplaceAll by nothing, step by step. -/
theorem rep_nil (g : List UInt8) (hg : g ≠ []) : replaceAll [] g [] = [] := by
  have hi : index [] g = -1 := by unfold index; rw [if_neg (by simpa using hg)]
  have hne : ¬ (g == []) = true := by simpa using hg
  simp only [replaceAll, replace, hne, if_false]
  simp [replaceNum, count_miss hi, replaceK]

theorem rep_eq {g : List UInt8} (hg : g ≠ []) (s : List UInt8) : replaceAll s g [] = replaceK g [] (count s g) s := by
  have hne : ¬ (g == []) = true := by simpa using hg
  simp only [replaceAll, replace, hne, if_false]
  simp [replaceNum]

theorem rep_hit {g : List UInt8} (hg : g ≠ []) (s : List UInt8) : replaceAll (g ++ s) g [] = replaceAll s g [] := by
  have hi : index (g ++ s) g = ((0 : Nat) : Int) := index_first (i := 0) (Nat.zero_le _) (by simp [occAt, List.isPrefixOf_iff_prefix]) (fun _ h => absurd h (Nat.not_lt_zero _))
  rw [rep_eq hg, rep_eq hg, count_hit hg hi, Nat.add_comm 1, replaceK_hit g [] _ _ 0 hi]
  simp

theorem index_cons_ne {g : List UInt8} (c : UInt8) (s : List UInt8) (h : g.isPrefixOf (c :: s) = false) : index (c :: s) g = if index s g = -1 then -1 else index s g + 1 := by
  conv => lhs; unfold index
  rw [h]
  simp only [Bool.false_eq_true, if_false, beq_iff_eq]

theorem rep_miss {g : List UInt8} (hg : g ≠ []) (c : UInt8) (s : List UInt8) (h : g.isPrefixOf (c :: s) = false) : replaceAll (c :: s) g [] = c :: replaceAll s g [] := by
  rw [rep_eq hg, rep_eq hg]
  have hi := index_cons_ne c s h
  by_cases hm : index s g = -1
  · rw [if_pos hm] at hi
    rw [count_miss hm, count_miss hi]
    rfl
  · rw [if_neg hm] at hi
    have h0 := index_ge s g
    obtain ⟨i, hs⟩ : ∃ i : Nat, index s g = i := ⟨(index s g).toNat, by omega⟩
    have hc : index (c :: s) g = ((i + 1 : Nat) : Int) := by rw [hi, hs]; rfl
    rw [count_hit hg hc, count_hit hg hs, Nat.add_comm 1, Nat.add_comm 1, replaceK_hit g [] _ _ _ hc, replaceK_hit g [] _ _ _ hs]
    have e : i + 1 + g.length = (i + g.length) + 1 := by omega
    rw [e]
    simp

/-- How the reference takes marks away: the digits, and whether there was a mark; none: something else. 'n': rounds. -/
def scan (dig : UInt8 → Bool) (g : List UInt8) : Nat → List UInt8 → Option (List UInt8 × Bool)
  | 0, _ => none
  | _ + 1, [] => some ([], false)
  | n + 1, c :: s => if dig c then (scan dig g n s).map (fun p => (c :: p.1, p.2)) else if g.isPrefixOf (c :: s) then (scan dig g n ((c :: s).drop g.length)).map (fun p => (p.1, true)) else none

/-- What is left when a mark is no digit at its front. -/
theorem scan_some {dig : UInt8 → Bool} {g : List UInt8} (hg : g ≠ []) (hd : ∀ c t, g = c :: t → dig c = false) : ∀ n s o m, scan dig g n s = some (o, m) → replaceAll s g [] = o ∧ o.all dig = true ∧ (m = false → o = s) ∧ (m = true → o.length < s.length) := by
  intro n
  induction n with
  | zero => intro s o m h; simp [scan] at h
  | succ n ih =>
    intro s o m h
    cases s with
    | nil =>
      simp only [scan, Option.some.injEq, Prod.mk.injEq] at h
      obtain ⟨rfl, rfl⟩ := h
      exact ⟨rep_nil g hg, rfl, fun _ => rfl, fun h => by cases h⟩
    | cons c s =>
      simp only [scan] at h
      by_cases hc : dig c = true
      · rw [if_pos hc] at h
        obtain ⟨p, hp, he⟩ := Option.map_eq_some_iff.1 h
        obtain ⟨h1, h2, h3, h4⟩ := ih s p.1 p.2 hp
        simp only [Prod.mk.injEq] at he
        obtain ⟨rfl, rfl⟩ := he
        have hp : g.isPrefixOf (c :: s) = false := by
          cases g with
          | nil => exact absurd rfl hg
          | cons x t =>
            have := hd x t rfl
            simp only [List.isPrefixOf_cons_cons, Bool.and_eq_false_iff]
            left
            rw [beq_eq_false_iff_ne]
            rintro rfl
            rw [this] at hc; exact absurd hc (by simp)
        refine ⟨by rw [rep_miss hg c s hp, h1], by simp [hc, h2], fun e => by rw [h3 e], fun e => ?_⟩
        have := h4 e
        simp only [List.length_cons]; omega
      · rw [if_neg hc] at h
        by_cases hp : g.isPrefixOf (c :: s) = true
        · rw [if_pos hp] at h
          obtain ⟨p, hq, he⟩ := Option.map_eq_some_iff.1 h
          obtain ⟨h1, h2, h3, h4⟩ := ih _ p.1 p.2 hq
          simp only [Prod.mk.injEq] at he
          obtain ⟨rfl, rfl⟩ := he
          obtain ⟨r, hr⟩ := List.isPrefixOf_iff_prefix.1 hp
          have e : (c :: s).drop g.length = r := by rw [← hr]; simp
          rw [e] at h1 h3 h4
          have hl : (c :: s).length = g.length + r.length := by rw [← hr]; simp
          have hgl : 0 < g.length := List.length_pos_iff.2 hg
          have hlt : p.1.length < (c :: s).length := by
            rw [hl]
            cases hm : p.2 with
            | false => rw [h3 hm]; omega
            | true => have := h4 hm; omega
          exact ⟨by rw [← hr, rep_hit hg, h1], h2, fun e => absurd e (by simp), fun _ => hlt⟩
        · rw [if_neg hp] at h; cases h

theorem scan_none {dig : UInt8 → Bool} {g : List UInt8} (hg : g ≠ []) (hd : ∀ c t, g = c :: t → dig c = false) : ∀ n s, s.length < n → scan dig g n s = none → (replaceAll s g []).all dig = false := by
  intro n
  induction n with
  | zero => intro s h; omega
  | succ n ih =>
    intro s hl h
    cases s with
    | nil => simp [scan] at h
    | cons c s =>
      simp only [scan] at h
      simp only [List.length_cons] at hl
      by_cases hc : dig c = true
      · rw [if_pos hc, Option.map_eq_none_iff] at h
        have hp : g.isPrefixOf (c :: s) = false := by
          cases g with
          | nil => exact absurd rfl hg
          | cons x t =>
            have := hd x t rfl
            simp only [List.isPrefixOf_cons_cons, Bool.and_eq_false_iff]
            left
            rw [beq_eq_false_iff_ne]
            rintro rfl
            rw [this] at hc; exact absurd hc (by simp)
        rw [rep_miss hg c s hp, List.all_cons, ih s (by omega) h, Bool.and_false]
      · rw [if_neg hc] at h
        by_cases hp : g.isPrefixOf (c :: s) = true
        · rw [if_pos hp, Option.map_eq_none_iff] at h
          obtain ⟨r, hr⟩ := List.isPrefixOf_iff_prefix.1 hp
          have e : (c :: s).drop g.length = r := by rw [← hr]; simp
          rw [e] at h
          have hgl : 0 < g.length := List.length_pos_iff.2 hg
          have hll : (c :: s).length = g.length + r.length := by rw [← hr]; simp
          simp only [List.length_cons] at hll
          rw [← hr, rep_hit hg]
          exact ih r (by omega) h
        · rw [rep_miss hg c s (by rw [Bool.not_eq_true] at hp; exact hp), List.all_cons]
          simp [hc]

/-- Is there a mark ahead of a digit that has so many digits from it on? -/
def mark (sec left : Nat) : Bool := decide (3 ≤ left) && (left - 3) % sec == 0
/-- The reference's way: from the front; 'f': is this the first digit? 'off': digits behind the row. -/
def grp (g : List UInt8) (sec off : Nat) : Bool → List UInt8 → List UInt8
  | _, [] => []
  | f, c :: t => (if !f && mark sec (t.length + 1 + off) then g else []) ++ c :: grp g sec off false t

theorem grp_append (g : List UInt8) (sec : Nat) (y : List UInt8) : ∀ (off : Nat) (f : Bool) (x : List UInt8), grp g sec off f (x ++ y) = grp g sec (off + y.length) f x ++ grp g sec off (f && x.isEmpty) y := by
  intro off f x
  induction x generalizing f with
  | nil => simp [grp]
  | cons c t ih =>
    simp only [List.cons_append, grp, ih]
    have e : (t ++ y).length + 1 + off = t.length + 1 + (off + y.length) := by simp; omega
    rw [e]
    simp

/-- No mark inside. -/
theorem grp_plain (g : List UInt8) (sec off : Nat) : ∀ (x : List UInt8), (∀ j, 1 ≤ j → j ≤ x.length → mark sec (j + off) = false) → ∀ f, grp g sec off f x = x := by
  intro x
  induction x with
  | nil => intro _ f; rfl
  | cons c t ih =>
    intro h f
    simp only [grp]
    have e := h (t.length + 1) (by omega) (by simp)
    rw [e, Bool.and_false, if_neg (by simp), ih (fun j h1 h2 => h j h1 (by simp; omega)) false]
    rfl

/-- A group behind others. -/
theorem grp_group (g : List UInt8) (sec off : Nat) (c : UInt8) (t : List UInt8) (h1 : mark sec (t.length + 1 + off) = true) (h : ∀ j, 1 ≤ j → j ≤ t.length → mark sec (j + off) = false) : grp g sec off false (c :: t) = g ++ c :: t := by
  simp only [grp, h1]
  rw [grp_plain g sec off t h]
  simp

/-- How many digits the i-th group from behind has, and how many stand behind it. -/
def gsz (sec i : Nat) : Nat := if i = 0 then 3 else sec
def goff (sec i : Nat) : Nat := if i = 0 then 0 else 3 + (i - 1) * sec

theorem goff_succ (sec i : Nat) : goff sec (i + 1) = goff sec i + gsz sec i := by
  unfold goff gsz
  cases i with
  | zero => simp
  | succ i => simp [Nat.succ_mul]; omega

theorem mark_in (sec i j : Nat) (hs : 0 < sec) (h1 : 1 ≤ j) (h2 : j < gsz sec i) : mark sec (j + goff sec i) = false := by
  unfold mark gsz goff at *
  cases i with
  | zero => simp at h2 ⊢; intro h; omega
  | succ i =>
    simp at h2 ⊢
    intro _
    have e : j + (3 + i * sec) - 3 = j + i * sec := by omega
    rw [e, Nat.add_mul_mod_self_right, Nat.mod_eq_of_lt h2]
    omega
theorem mark_at (sec i : Nat) : mark sec (goff sec (i + 1)) = true := by
  unfold mark goff
  simp

/-- The program's way: from behind. -/
def cutg (g : List UInt8) (sec : Nat) : Nat → Nat → List UInt8 → List UInt8 → List UInt8
  | 0, _, d, s => d ++ s
  | n + 1, i, d, s => if gsz sec i < d.length then cutg g sec n (i + 1) (d.take (d.length - gsz sec i)) (g ++ d.drop (d.length - gsz sec i) ++ s) else d ++ s

theorem cutg_eq (g : List UInt8) (sec : Nat) (hs : 0 < sec) : ∀ n i d s, d.length < n → cutg g sec n i d s = grp g sec (goff sec i) true d ++ s := by
  intro n
  induction n with
  | zero => intro i d s h; omega
  | succ n ih =>
    intro i d s h
    have hz : 0 < gsz sec i := by unfold gsz; split <;> omega
    simp only [cutg]
    by_cases hc : gsz sec i < d.length
    · rw [if_pos hc, ih (i + 1) _ _ (by simp; omega)]
      have hd : d = d.take (d.length - gsz sec i) ++ d.drop (d.length - gsz sec i) := (List.take_append_drop _ _).symm
      obtain ⟨y, hy⟩ : ∃ y, d.drop (d.length - gsz sec i) = y := ⟨_, rfl⟩
      obtain ⟨x, hx⟩ : ∃ x, d.take (d.length - gsz sec i) = x := ⟨_, rfl⟩
      have hyl : y.length = gsz sec i := by rw [← hy]; simp; omega
      have hxl : 0 < x.length := by rw [← hx]; simp; omega
      rw [hx, hy] at hd ⊢
      rw [hd, grp_append, hyl, ← goff_succ]
      have hxe : x.isEmpty = false := by cases x with | nil => simp at hxl | cons a b => rfl
      rw [hxe, Bool.and_false]
      cases y with
      | nil => simp at hyl; omega
      | cons c t =>
        simp only [List.length_cons] at hyl
        rw [grp_group g sec (goff sec i) c t (by rw [hyl, Nat.add_comm, ← goff_succ]; exact mark_at sec i) (fun j h1 h2 => mark_in sec i j hs h1 (by omega))]
        simp
    · rw [if_neg hc]
      congr 1
      cases d with
      | nil => rfl
      | cons c t =>
        simp only [List.length_cons] at hc
        simp only [grp, Bool.not_true, Bool.false_and]
        rw [if_neg (by simp), grp_plain g sec (goff sec i) t (fun j h1 h2 => mark_in sec i j hs h1 (by omega)) false]
        rfl

/-- What was grouped is scanned as the digits. -/
theorem scan_grp {dig : UInt8 → Bool} {g : List UInt8} (hg : g ≠ []) (hd : ∀ c t, g = c :: t → dig c = false) (sec off : Nat) : ∀ (d : List UInt8) (f : Bool) n, d.all dig = true → (grp g sec off f d).length < n → ∃ m, scan dig g n (grp g sec off f d) = some (d, m) := by
  intro d
  induction d with
  | nil =>
    intro f n _ hn
    cases n with
    | zero => simp at hn
    | succ n => exact ⟨false, rfl⟩
  | cons c t ih =>
    intro f n ha hn
    simp only [List.all_cons, Bool.and_eq_true] at ha
    have hone : ∀ n, (c :: grp g sec off false t).length < n → ∃ m, scan dig g n (c :: grp g sec off false t) = some (c :: t, m) := by
      intro n hn
      cases n with
      | zero => simp at hn
      | succ n =>
        simp only [List.length_cons] at hn
        obtain ⟨m, hm⟩ := ih false n ha.2 (by omega)
        exact ⟨m, by simp only [scan]; rw [if_pos ha.1, hm]; rfl⟩
    by_cases hb : (!f && mark sec (t.length + 1 + off)) = true
    · have e : grp g sec off f (c :: t) = g ++ c :: grp g sec off false t := by simp only [grp]; rw [if_pos hb]
      rw [e] at hn ⊢
      cases n with
      | zero => simp at hn
      | succ n =>
        cases hgg : g with
        | nil => exact absurd hgg hg
        | cons x r =>
          have hx := hd x r hgg
          simp only [List.length_append, hgg, List.length_cons] at hn
          rw [hgg] at hone
          obtain ⟨m, hm⟩ := hone n (by simp only [List.length_cons]; omega)
          refine ⟨true, ?_⟩
          simp only [List.cons_append, scan]
          rw [if_neg (by simp [hx]), if_pos (by simp [List.isPrefixOf_iff_prefix])]
          have e2 : (x :: (r ++ c :: grp (x :: r) sec off false t)).drop (x :: r).length = c :: grp (x :: r) sec off false t := by simp
          rw [e2]
          rw [hm]
          rfl
    · have e : grp g sec off f (c :: t) = c :: grp g sec off false t := by simp only [grp]; rw [if_neg hb]; rfl
      rw [e] at hn ⊢
      exact hone n hn
end Go.Proofs.YtmbhjogohfcjgaaDoor.Lm
