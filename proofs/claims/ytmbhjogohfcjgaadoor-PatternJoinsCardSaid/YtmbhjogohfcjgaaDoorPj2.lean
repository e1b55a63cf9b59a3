/- Plain law: one step of the reader, and the whole reading, inside a longer text; two sections. -/
import Derived.Test.YtmbhjogohfcjgaaDoorPj1
namespace Go.Proofs.YtmbhjogohfcjgaaDoor.P
open Go.RowKit Go.Proofs.YtmbhjogohfcjgaaDoorW.PrintWords
set_option linter.unusedVariables false
set_option linter.unusedSimpArgs false

section
variable {A B : ByteArray} {δ : Nat} {Y : List UInt8} {P : List S62} {i0 : Nat} {fr : List Int}
theorem quote_sim {pl pl' : Nat} {st st2 : RS} (hJ : J A st) (h0 : 0 < st.at_) (h : quoteM pl st = .ok st2) :
    J A st2 ∧ st.at_ < st2.at_ ∧ st.items ≤ st2.items ∧ (i0 + st2.items ≤ 100 → In A B δ Y → quoteM pl' (lf B δ P i0 fr st) = .ok (lf B δ P i0 fr st2)) := by
  have hs0 := hJ.s
  have hle := hJ.le
  unfold quoteM at h
  by_cases h1 : nextQ st < 0
  · rw [if_pos h1] at h; cases h
  rw [if_neg h1] at h
  by_cases h2 : Lib.validD (st.s.extract st.at_ (st.at_ + (nextQ st).toNat)).data.toList = false
  · rw [if_pos h2] at h; cases h
  rw [if_neg h2] at h
  rcases hq : quoteL pl (st.at_ + (nextQ st).toNat) (nextQ st).toNat { st with open_ := false } with x | st3
  · rw [hq] at h; cases h
  rw [hq] at h
  have h := (Except.ok.inj h).symm
  subst h
  have eA : nextQ st = Lib.indexByte (A.data.toList.drop st.at_) 34 := by unfold nextQ; rw [rest_list, hs0]
  obtain ⟨_, hg⟩ := indexByte_app (A.data.toList.drop st.at_) Y 34 (by rw [← eA]; omega)
  rw [← eA, List.getElem?_drop] at hg
  have hlt : st.at_ + (nextQ st).toNat < A.size := by
    rcases Nat.lt_or_ge (st.at_ + (nextQ st).toNat) A.size with h9 | h9
    · exact h9
    · rw [List.getElem?_eq_none (by exact h9)] at hg; cases hg
  have hJ0 : J A { st with open_ := false } := ⟨hs0, hJ.one, fun hh => absurd hh (by simp), hle⟩
  obtain ⟨j3, z3, s3, i3, e3⟩ := quoteL_J (A := A) (B := B) (δ := δ) (Y := Y) (P := P) (i0 := i0) (fr := fr) hg _ _ _ hq hJ0 h0 (Nat.le_add_right _ _)
  have hat := quoteL_at _ _ _ _ _ hq
  refine ⟨⟨j3.s, j3.one, fun _ => Nat.succ_pos _, by show st3.at_ + 1 ≤ _; omega⟩, Nat.lt_succ_of_le hat, i3, fun hb hin => ?_⟩
  have e3 := e3 hb hin pl'
  have eB : nextQ (lf B δ P i0 fr st) = nextQ st := by
    rw [eA]
    unfold nextQ
    show Lib.indexByte (B.extract (δ + st.at_) B.size).data.toList 34 = _
    rw [rest_list, hin.rest hle]
    exact (indexByte_app (A.data.toList.drop st.at_) Y 34 (by rw [← eA]; omega)).1
  unfold quoteM
  rw [eB, if_neg h1]
  have hsub : (lf B δ P i0 fr st).s.extract (lf B δ P i0 fr st).at_ ((lf B δ P i0 fr st).at_ + (nextQ st).toNat) = st.s.extract st.at_ (st.at_ + (nextQ st).toNat) := by
    show B.extract (δ + st.at_) (δ + st.at_ + (nextQ st).toNat) = _
    rw [Nat.add_assoc, hin.sub hle (by omega), hs0]
  rw [hsub, if_neg h2]
  have e3 : quoteL pl' ((lf B δ P i0 fr st).at_ + (nextQ st).toNat) (nextQ st).toNat { lf B δ P i0 fr st with open_ := false } = .ok (lf B δ P i0 fr st3) := by
    rw [show (lf B δ P i0 fr st).at_ + (nextQ st).toNat = δ + (st.at_ + (nextQ st).toNat) from Nat.add_assoc _ _ _]
    exact e3
  rw [e3]
  rfl
theorem comma_sim {pl : Nat} {st st2 : RS} (hJ : J A st) (hat : st.at_ = pl + 1) (hop : st.open_ = true → 0 < pl) (h : commaM pl st = .ok st2) :
    J A st2 ∧ st2.at_ = st.at_ ∧ st2.items = st.items ∧ (In A B δ Y → commaM (δ + pl) (lf B δ P i0 fr st) = .ok (lf B δ P i0 fr st2)) := by
  have hs0 := hJ.s
  have hle := hJ.le
  obtain ⟨a, ha, hl⟩ := hJ.one
  have hls : lastSec st.secs = a := by rw [ha]; exact last_app [] a
  have hlP : lastSec (P ++ st.secs) = a := by rw [ha]; exact last_app P a
  have hset : ∀ b, setLast st.secs b = [b] := fun b => by rw [ha]; exact set_app [] a b
  have hsetP : ∀ b, setLast (P ++ st.secs) b = P ++ [b] := fun b => by rw [ha]; exact set_app P a b
  have hnx : In A B δ Y → nextDg (lf B δ P i0 fr st) = nextDg st := fun hin => by
    have hsz := hin.sz
    have e1 : nextDg (lf B δ P i0 fr st) = if h : δ + st.at_ < B.size then isDg (B[δ + st.at_]'h) else false := rfl
    have e2 : nextDg st = if h : st.at_ < A.size then isDg (A[st.at_]'h) else false := by unfold nextDg; subst hs0; rfl
    rw [e1, e2]
    by_cases hlt : st.at_ < A.size
    · rw [dif_pos hlt, dif_pos (by omega), hin.get hlt]
    · rw [dif_neg hlt]
      by_cases h2 : δ + st.at_ < B.size
      · rw [dif_pos h2]
        have e : st.at_ = A.size := by omega
        have e3 : B[δ + st.at_]'h2 = 59 := by
          have := hin.after (by omega)
          rw [← this]; congr 2
        rw [e3]; rfl
      · rw [dif_neg h2]
  have hpv : st.open_ = true → In A B δ Y → prevC B (δ + pl) = prevC st.s pl := fun ho hin => by
    have hp := hop ho
    have hsz := hin.sz
    rw [hs0]
    unfold prevC
    have e : δ + pl - 1 = δ + (pl - 1) := by omega
    rw [dif_pos (show pl - 1 < A.size by omega), dif_pos (show δ + pl - 1 < B.size by omega)]
    have e3 : B[δ + pl - 1]'(by omega) = A[pl - 1]'(by omega) := by
      rw [← hin.get (p := pl - 1) (by omega) (by omega)]
      congr 2
    rw [e3]
  unfold commaM at h
  by_cases ho : st.open_ = false
  · rw [if_pos ho] at h; cases h
  rw [if_neg ho] at h
  have ho' : st.open_ = true := by simpa using ho
  by_cases hn : nextDg st = true
  · rw [if_pos hn] at h
    by_cases hp : prevC st.s pl = true
    · rw [if_pos hp] at h; cases h
    rw [if_neg hp] at h
    have h := (Except.ok.inj h).symm
    subst h
    refine ⟨⟨hs0, ⟨_, hset _, by show (lastSec st.secs).f0.length = _; rw [hls, hl]⟩, fun _ => by show 0 < st.at_; omega, hle⟩, rfl, rfl, fun hin => ?_⟩
    unfold commaM
    rw [if_neg (show ¬ (lf B δ P i0 fr st).open_ = false from ho), hnx hin, if_pos hn, if_neg (show ¬ prevC (lf B δ P i0 fr st).s (δ + pl) = true by show ¬ prevC B (δ + pl) = true; rw [hpv ho' hin]; exact hp)]
    show Except.ok (⟨B, δ + st.at_, setLast (P ++ st.secs) { lastSec (P ++ st.secs) with f1 := true }, fr, i0 + st.items, st.open_⟩ : RS) = Except.ok ⟨B, δ + st.at_, P ++ setLast st.secs { lastSec st.secs with f1 := true }, fr, i0 + st.items, st.open_⟩
    rw [hlP, hls, hset, hsetP]
  · rw [if_neg hn] at h
    have h := (Except.ok.inj h).symm
    subst h
    refine ⟨⟨hs0, ⟨_, hset _, by show (lastSec st.secs).f0.length = _; rw [hls, hl]⟩, fun _ => by show 0 < st.at_; omega, hle⟩, rfl, rfl, fun hin => ?_⟩
    unfold commaM
    rw [if_neg (show ¬ (lf B δ P i0 fr st).open_ = false from ho), hnx hin, if_neg hn]
    show Except.ok (⟨B, δ + st.at_, setLast (P ++ st.secs) { lastSec (P ++ st.secs) with f2 := (lastSec (P ++ st.secs)).f2 + 1 }, fr, i0 + st.items, st.open_⟩ : RS) = Except.ok ⟨B, δ + st.at_, P ++ setLast st.secs { lastSec st.secs with f2 := (lastSec st.secs).f2 + 1 }, fr, i0 + st.items, st.open_⟩
    rw [hlP, hls, hset, hsetP]
theorem other_sim {c : UInt8} {pl : Nat} {st st2 : RS} (hJ : J A st) (hat : st.at_ = pl + 1) (h : otherM c pl st = .ok st2) :
    J A st2 ∧ pl < st2.at_ ∧ st.items ≤ st2.items ∧ (i0 + st2.items ≤ 100 → In A B δ Y → otherM c (δ + pl) (lf B δ P i0 fr st) = .ok (lf B δ P i0 fr st2)) := by
  have hs0 := hJ.s
  have hle := hJ.le
  unfold otherM at h
  by_cases h1 : bareB c = true
  · rw [if_pos h1] at h
    obtain ⟨j, i, a, e⟩ := put_sim (B := B) (δ := δ) (P := P) (i0 := i0) (fr := fr) (pl' := ((δ + pl : Nat) : Int)) hJ (by omega) h
    refine ⟨j, by omega, by omega, fun hb hin => ?_⟩
    unfold otherM
    rw [if_pos h1]
    have hsub : (lf B δ P i0 fr st).s.extract (δ + pl) (lf B δ P i0 fr st).at_ = st.s.extract pl st.at_ := by
      show B.extract (δ + pl) (δ + st.at_) = _
      rw [hin.sub (by omega) hle, hs0]
    rw [hsub]; exact e hb
  rw [if_neg h1] at h
  by_cases h2 : 0 < singleK c.toNat
  · rw [if_pos h2] at h
    obtain ⟨j, i, a, e⟩ := put_sim (B := B) (δ := δ) (P := P) (i0 := i0) (fr := fr) (pl' := ((δ + pl : Nat) : Int)) hJ (by omega) h
    refine ⟨j, by omega, by omega, fun hb hin => ?_⟩
    unfold otherM
    rw [if_neg h1, if_pos h2]; exact e hb
  rw [if_neg h2] at h
  by_cases h3 : genB st.s pl = true
  · rw [if_pos h3] at h
    have h7 := genB_le h3
    rw [hs0] at h7
    have hJ7 : J A { st with at_ := pl + 7 } := ⟨hs0, hJ.one, fun _ => by show 0 < pl + 7; omega, h7⟩
    obtain ⟨j, i, a, e⟩ := put_sim (B := B) (δ := δ) (P := P) (i0 := i0) (fr := fr) (pl' := ((δ + pl : Nat) : Int)) hJ7 (show 0 < pl + 7 by omega) h
    have a : st2.at_ = pl + 7 := a
    have i : st2.items = st.items + 1 := i
    refine ⟨j, by omega, by omega, fun hb hin => ?_⟩
    unfold otherM
    rw [if_neg h1, if_neg h2, if_pos (show genB (lf B δ P i0 fr st).s (δ + pl) = true by show genB B (δ + pl) = true; rw [hin.gen (by omega), ← hs0]; exact h3)]
    exact e hb
  rw [if_neg h3] at h
  by_cases h4 : expB c st.s st.at_ = true
  · rw [if_pos h4] at h
    have hlt : st.at_ < A.size := by
      rcases Nat.lt_or_ge st.at_ A.size with h9 | h9
      · exact h9
      · unfold expB at h4
        rw [dif_neg (by rw [hs0]; omega), Bool.and_false] at h4
        cases h4
    have hJ7 : J A { st with at_ := st.at_ + 1 } := ⟨hs0, hJ.one, fun _ => Nat.succ_pos _, hlt⟩
    obtain ⟨j, i, a, e⟩ := put_sim (B := B) (δ := δ) (P := P) (i0 := i0) (fr := fr) (pl' := ((δ + pl : Nat) : Int)) hJ7 (Nat.succ_pos _) h
    have a : st2.at_ = st.at_ + 1 := a
    have i : st2.items = st.items + 1 := i
    refine ⟨j, by omega, by omega, fun hb hin => ?_⟩
    unfold otherM
    rw [if_neg h1, if_neg h2, if_neg (show ¬ genB (lf B δ P i0 fr st).s (δ + pl) = true by show ¬ genB B (δ + pl) = true; rw [hin.gen (by omega), ← hs0]; exact h3),
      if_pos (show expB c (lf B δ P i0 fr st).s (lf B δ P i0 fr st).at_ = true by show expB c B (δ + st.at_) = true; rw [hin.exp hle, ← hs0]; exact h4)]
    have hsub : (lf B δ P i0 fr st).s.extract (δ + pl + 1) ((lf B δ P i0 fr st).at_ + 1) = st.s.extract (pl + 1) (st.at_ + 1) := by
      show B.extract (δ + (pl + 1)) (δ + (st.at_ + 1)) = _
      rw [hin.sub (by omega) (by omega), hs0]
    rw [hsub]; exact e hb
  rw [if_neg h4] at h; cases h
theorem rune_J {st : RS} (hJ : J A st) (h0 : 0 < st.at_) : J A (runeS st) ∧ 0 < (runeS st).at_ := by
  have hs0 := hJ.s
  have hle := decAt_le st.s st.at_ (by rw [hs0]; exact hJ.le)
  exact ⟨⟨hs0, hJ.one, fun _ => by show 0 < st.at_ + _; omega, by show st.at_ + (decAt st.s st.at_).2 ≤ _; rw [← hs0]; exact hle⟩, by show 0 < st.at_ + _; omega⟩
theorem rune_lf {st : RS} (hJ : J A st) (hb : badAt st.s st.at_ = false) (hin : In A B δ Y) : badAt (lf B δ P i0 fr st).s (lf B δ P i0 fr st).at_ = false ∧ runeT (lf B δ P i0 fr st) = runeT st ∧ runeS (lf B δ P i0 fr st) = lf B δ P i0 fr (runeS st) := by
  have hs0 := hJ.s
  have hle := decAt_le st.s st.at_ (by rw [hs0]; exact hJ.le)
  have hd : decAt B (δ + st.at_) = decAt st.s st.at_ := by rw [hs0] at hb ⊢; exact hin.dec hJ.le hb
  have hbd : badAt B (δ + st.at_) = false := by rw [hs0] at hb; exact hin.bad hJ.le hb
  refine ⟨hbd, ?_, ?_⟩
  · unfold runeT lf
    simp only []
    rw [hd, Nat.add_assoc, hs0] at *
    exact hin.sub hJ.le hle
  · unfold runeS lf
    simp only []
    rw [hd, Nat.add_assoc]

/-! ### sections are never taken away -/
theorem put_len {k : Int} {x : ByteArray} {pl : Int} {st st2 : RS} (h : putM k x pl st = .ok st2) : st2.secs.length = st.secs.length := by
  unfold putM at h
  split at h
  · cases h
  · have h := Except.ok.inj h
    subst h
    exact addItem_len _ _
theorem quoteL_len (pl stop : Nat) : ∀ (f : Nat) (st st2 : RS), quoteL pl stop f st = .ok st2 → st2.secs.length = st.secs.length
  | 0, st, st2, h => by rw [← Except.ok.inj h]
  | f + 1, st, st2, h => by
    unfold quoteL at h
    split at h
    · split at h
      · cases h
      · rcases hp : putM 1 (runeT st) st.at_ (runeS st) with x | st3
        · rw [hp] at h; cases h
        · rw [hp] at h
          exact (quoteL_len pl stop f st3 st2 h).trans (show st3.secs.length = st.secs.length from put_len (st := runeS st) hp)
    · rw [← Except.ok.inj h]
theorem oneM_len {st st2 : RS} (h : oneM st = .ok st2) : st.secs.length ≤ st2.secs.length := by
  unfold oneM at h
  split at h
  · unfold oneC at h
    split at h
    · unfold beginM at h
      split at h
      · cases h
      · have h := Except.ok.inj h
        subst h
        show _ ≤ (st.secs ++ [_]).length
        rw [List.length_append]; exact Nat.le_add_right _ _
    split at h
    · unfold quoteM at h
      split at h
      · cases h
      split at h
      · cases h
      · rename_i c1 c2 h1 h2 h3
        rcases hq : quoteL st.at_ ({ st with at_ := st.at_ + 1 }.at_ + (nextQ { st with at_ := st.at_ + 1 }).toNat) (nextQ { st with at_ := st.at_ + 1 }).toNat { { st with at_ := st.at_ + 1 } with open_ := false } with x | st3
        · rw [hq] at h; cases h
        · rw [hq] at h
          have h := Except.ok.inj h
          subst h
          exact Nat.le_of_eq (quoteL_len _ _ _ _ _ hq).symm
    split at h
    · unfold bsM at h
      split at h
      · cases h
      · exact Nat.le_of_eq (put_len h).symm
    split at h
    · unfold usM at h
      split at h
      · cases h
      · exact Nat.le_of_eq (put_len h).symm
    split at h
    · unfold commaM at h
      split at h
      · cases h
      split at h
      · split at h
        · cases h
        · have h := Except.ok.inj h
          subst h
          exact Nat.le_of_eq (setLast_len _ _).symm
      · have h := Except.ok.inj h
        subst h
        exact Nat.le_of_eq (setLast_len _ _).symm
    split at h
    · exact Nat.le_of_eq (put_len h).symm
    · unfold otherM at h
      split at h
      · exact Nat.le_of_eq (put_len h).symm
      split at h
      · exact Nat.le_of_eq (put_len h).symm
      split at h
      · exact Nat.le_of_eq (put_len h).symm
      split at h
      · exact Nat.le_of_eq (put_len h).symm
      · cases h
  · rw [← Except.ok.inj h]; exact Nat.le_refl _
theorem parseL_len : ∀ (f : Nat) (st st2 : RS), parseL f st = .ok st2 → st.secs.length ≤ st2.secs.length
  | 0, st, st2, h => by rw [← Except.ok.inj h]; exact Nat.le_refl _
  | f + 1, st, st2, h => by
    unfold parseL at h
    split at h
    · rcases hp : oneM st with x | st3
      · rw [hp] at h; cases h
      · rw [hp] at h
        exact Nat.le_trans (oneM_len hp) (parseL_len f st3 st2 h)
    · rw [← Except.ok.inj h]; exact Nat.le_refl _

/-! ### one step, all steps -/
theorem one_sim {st st2 : RS} (hJ : J A st) (hlt : st.at_ < A.size) (h : oneM st = .ok st2) (h1 : st2.secs.length = 1) :
    J A st2 ∧ st.at_ < st2.at_ ∧ st.items ≤ st2.items ∧ (i0 + st2.items ≤ 100 → In A B δ Y → oneM (lf B δ P i0 fr st) = .ok (lf B δ P i0 fr st2)) := by
  have hs0 := hJ.s
  have hlt' : st.at_ < st.s.size := by rw [hs0]; exact hlt
  have hJ1 : J A { st with at_ := st.at_ + 1 } := ⟨hs0, hJ.one, fun _ => Nat.succ_pos _, hlt⟩
  have hB : In A B δ Y → ∃ hh : δ + st.at_ < B.size, oneM (lf B δ P i0 fr st) = oneC (st.s[st.at_]'hlt') (δ + st.at_) (lf B δ P i0 fr { st with at_ := st.at_ + 1 }) := fun hin => by
    have hsz := hin.sz
    have hh : δ + st.at_ < B.size := by omega
    refine ⟨hh, ?_⟩
    have hh2 : (lf B δ P i0 fr st).at_ < (lf B δ P i0 fr st).s.size := hh
    unfold oneM
    rw [dif_pos hh2]
    have hc : (lf B δ P i0 fr st).s[(lf B δ P i0 fr st).at_]'hh2 = st.s[st.at_]'hlt' := by
      show B[δ + st.at_]'hh = _
      rw [hin.get hlt]; subst hs0; rfl
    rw [hc]; rfl
  unfold oneM at h
  rw [dif_pos hlt'] at h
  generalize st.s[st.at_]'hlt' = c at h hB
  have key : J A st2 ∧ st.at_ < st2.at_ ∧ st.items ≤ st2.items ∧ (i0 + st2.items ≤ 100 → In A B δ Y → oneC c (δ + st.at_) (lf B δ P i0 fr { st with at_ := st.at_ + 1 }) = .ok (lf B δ P i0 fr st2)) := by
    unfold oneC at h ⊢
    by_cases c1 : (c == 59) = true
    · rw [if_pos c1] at h
      exfalso
      unfold beginM at h
      obtain ⟨a, ha, _⟩ := hJ.one
      split at h
      · cases h
      · have h := (Except.ok.inj h).symm
        subst h
        have h1 : (st.secs ++ [z62]).length = 1 := h1
        rw [ha] at h1
        exact absurd h1 (by simp)
    simp only [if_neg c1] at h ⊢
    by_cases c2 : (c == 34) = true
    · simp only [if_pos c2] at h ⊢
      obtain ⟨j, a, i, e⟩ := quote_sim (B := B) (δ := δ) (Y := Y) (P := P) (i0 := i0) (fr := fr) (pl' := δ + st.at_) hJ1 (Nat.succ_pos _) h
      exact ⟨j, Nat.lt_of_succ_lt a, i, e⟩
    simp only [if_neg c2] at h ⊢
    by_cases c3 : (c == 92) = true
    · simp only [if_pos c3] at h ⊢
      unfold bsM at h ⊢
      by_cases hb : badAt { st with at_ := st.at_ + 1 }.s { st with at_ := st.at_ + 1 }.at_ = true
      · rw [if_pos hb] at h; cases h
      rw [if_neg hb] at h
      have hb : badAt { st with at_ := st.at_ + 1 }.s { st with at_ := st.at_ + 1 }.at_ = false := by simpa using hb
      obtain ⟨jr, zr⟩ := rune_J hJ1 (Nat.succ_pos _)
      obtain ⟨j, i, a, e⟩ := put_sim (B := B) (δ := δ) (P := P) (i0 := i0) (fr := fr) (pl' := ((δ + st.at_ : Nat) : Int)) jr zr h
      have a : st2.at_ = st.at_ + 1 + _ := a
      have i : st2.items = st.items + 1 := i
      refine ⟨j, by omega, by omega, fun hb2 hin => ?_⟩
      obtain ⟨q1, q2, q3⟩ := rune_lf (P := P) (i0 := i0) (fr := fr) hJ1 hb hin
      rw [if_neg (by rw [q1]; decide), q2, q3]
      exact e hb2
    simp only [if_neg c3] at h ⊢
    by_cases c4 : (c == 95) = true
    · simp only [if_pos c4] at h ⊢
      unfold usM at h ⊢
      by_cases hb : badAt { st with at_ := st.at_ + 1 }.s { st with at_ := st.at_ + 1 }.at_ = true
      · rw [if_pos hb] at h; cases h
      rw [if_neg hb] at h
      have hb : badAt { st with at_ := st.at_ + 1 }.s { st with at_ := st.at_ + 1 }.at_ = false := by simpa using hb
      obtain ⟨jr, zr⟩ := rune_J hJ1 (Nat.succ_pos _)
      obtain ⟨j, i, a, e⟩ := put_sim (B := B) (δ := δ) (P := P) (i0 := i0) (fr := fr) (pl' := ((δ + st.at_ : Nat) : Int)) jr zr h
      have a : st2.at_ = st.at_ + 1 + _ := a
      have i : st2.items = st.items + 1 := i
      refine ⟨j, by omega, by omega, fun hb2 hin => ?_⟩
      obtain ⟨q1, q2, q3⟩ := rune_lf (P := P) (i0 := i0) (fr := fr) hJ1 hb hin
      rw [if_neg (by rw [q1]; decide), q3]
      exact e hb2
    simp only [if_neg c4] at h ⊢
    by_cases c5 : (c == 44) = true
    · simp only [if_pos c5] at h ⊢
      obtain ⟨j, a, i, e⟩ := comma_sim (B := B) (δ := δ) (Y := Y) (P := P) (i0 := i0) (fr := fr) hJ1 rfl (fun ho => hJ.op ho) h
      have a : st2.at_ = st.at_ + 1 := a
      have i : st2.items = st.items := i
      exact ⟨j, by omega, by omega, fun _ => e⟩
    simp only [if_neg c5] at h ⊢
    by_cases c6 : (c == 48 || c == 35 || c == 63) = true
    · simp only [if_pos c6] at h ⊢
      obtain ⟨j, i, a, e⟩ := put_sim (B := B) (δ := δ) (P := P) (i0 := i0) (fr := fr) (pl' := ((δ + st.at_ : Nat) : Int)) hJ1 (Nat.succ_pos _) h
      have a : st2.at_ = st.at_ + 1 := a
      have i : st2.items = st.items + 1 := i
      refine ⟨j, by omega, by omega, fun hb2 hin => ?_⟩
      have hsub : (lf B δ P i0 fr { st with at_ := st.at_ + 1 }).s.extract (δ + st.at_) (lf B δ P i0 fr { st with at_ := st.at_ + 1 }).at_ = st.s.extract st.at_ (st.at_ + 1) := by
        show B.extract (δ + st.at_) (δ + (st.at_ + 1)) = _
        rw [hin.sub (Nat.le_of_lt hlt) hlt, hs0]
      rw [hsub]
      exact e hb2
    simp only [if_neg c6] at h ⊢
    obtain ⟨j, a, i, e⟩ := other_sim (B := B) (δ := δ) (Y := Y) (P := P) (i0 := i0) (fr := fr) hJ1 rfl h
    exact ⟨j, a, i, e⟩
  refine ⟨key.1, key.2.1, key.2.2.1, fun hb hin => ?_⟩
  obtain ⟨_, e⟩ := hB hin
  rw [e]
  exact key.2.2.2 hb hin
theorem parse_sim : ∀ (f : Nat) (st stA : RS), parseL f st = .ok stA → J A st → stA.secs.length = 1 → A.size ≤ st.at_ + f →
    J A stA ∧ stA.at_ = A.size ∧ st.items ≤ stA.items ∧ (i0 + stA.items ≤ 100 → In A B δ Y → ∃ k, k + st.at_ ≤ A.size ∧ ∀ g, parseL (k + g) (lf B δ P i0 fr st) = parseL g (lf B δ P i0 fr stA))
  | 0, st, stA, h, hJ, h1, hf => by
    have h := Except.ok.inj h
    subst h
    exact ⟨hJ, Nat.le_antisymm hJ.le hf, Nat.le_refl _, fun _ _ => ⟨0, by have := hJ.le; omega, fun g => by rw [Nat.zero_add]⟩⟩
  | f + 1, st, stA, h, hJ, h1, hf => by
    unfold parseL at h
    by_cases hlt : st.at_ < st.s.size
    · rw [if_pos hlt] at h
      rcases hp : oneM st with x | st2
      · rw [hp] at h; cases h
      · rw [hp] at h
        have h : parseL f st2 = .ok stA := h
        have hlt' : st.at_ < A.size := by rw [← hJ.s]; exact hlt
        have hl2 := parseL_len f st2 stA h
        have hl1 := oneM_len hp
        obtain ⟨a, ha, _⟩ := hJ.one
        have hl0 : st.secs.length = 1 := by rw [ha]; rfl
        obtain ⟨j2, a2, i2, e2⟩ := one_sim (B := B) (δ := δ) (Y := Y) (P := P) (i0 := i0) (fr := fr) hJ hlt' hp (by omega)
        obtain ⟨j3, a3, i3, e3⟩ := parse_sim f st2 stA h j2 h1 (by omega)
        refine ⟨j3, a3, by omega, fun hb hin => ?_⟩
        obtain ⟨k, hk, ek⟩ := e3 hb hin
        have hsz := hin.sz
        refine ⟨k + 1, by omega, fun g => ?_⟩
        rw [show k + 1 + g = (k + g) + 1 by omega]
        have e : parseL ((k + g) + 1) (lf B δ P i0 fr st) = parseL (k + g) (lf B δ P i0 fr st2) := by
          rw [parseL, if_pos (show (lf B δ P i0 fr st).at_ < (lf B δ P i0 fr st).s.size from (show δ + st.at_ < B.size by omega)), e2 (by omega) hin]
        rw [e]
        exact ek g
    · rw [if_neg hlt] at h
      have h := Except.ok.inj h
      subst h
      have hge : A.size ≤ st.at_ := by rw [← hJ.s]; omega
      exact ⟨hJ, Nat.le_antisymm hJ.le hge, Nat.le_refl _, fun _ _ => ⟨0, by have := hJ.le; omega, fun g => by rw [Nat.zero_add]⟩⟩
end

/-! ### the two sections -/
theorem wrong_one {a : S62} (h : ¬ 0 ≤ wrongOf [a]) : ¬ shapeOf a.f0 a.f1 a.f2 = 0 := by
  intro h0
  apply h
  have : wrongOf [a] = ((0 : Nat) : Int) := wrongOf_some (j := 0) Nat.zero_lt_one (fun i hi => absurd hi (Nat.not_lt_zero i)) (by
    unfold wrongAt wrongIf
    rw [show rd_T62 [a] ((0 : Nat) : Int) = a from rfl, if_pos h0])
  rw [this]; exact Int.le_refl _
theorem wrong_two {a b : S62} (ha : ¬ shapeOf a.f0 a.f1 a.f2 = 0) (hb : ¬ shapeOf b.f0 b.f1 b.f2 = 0) (ka : ¬ shapeOf a.f0 a.f1 a.f2 = 6) (kb : ¬ shapeOf b.f0 b.f1 b.f2 = 6) : wrongOf [a, b] = -1 := by
  apply wrongOf_none
  intro i hi
  have hi : i < 2 := hi
  have : i = 0 ∨ i = 1 := by omega
  rcases this with rfl | rfl
  · unfold wrongAt wrongIf
    rw [show rd_T62 [a, b] ((0 : Nat) : Int) = a from rfl, if_neg ha, if_neg ka]
    split <;> rfl
  · unfold wrongAt wrongIf
    rw [show rd_T62 [a, b] ((1 : Nat) : Int) = b from rfl, if_neg hb, if_neg kb]
    split <;> rfl
theorem parse_ok {s : ByteArray} {a : S62} (hs : s.size ≤ 490) (h : parseR s = .ok [a]) : ∃ st, parseL s.size (parse0 s) = .ok st ∧ st.secs = [a] ∧ ¬ 0 ≤ wrongOf [a] := by
  unfold parseR at h
  rw [if_neg (by omega)] at h
  rcases hp : parseL s.size (parse0 s) with x | st
  · rw [hp] at h; cases h
  · rw [hp] at h
    unfold parseEnd at h
    by_cases hw : 0 ≤ wrongOf st.secs
    · simp only [if_pos hw] at h; cases h
    · simp only [if_neg hw] at h
      have h := Except.ok.inj h
      rw [h] at hw
      exact ⟨st, rfl, h, hw⟩
theorem parse0_J (s : ByteArray) : J s (parse0 s) := ⟨rfl, ⟨_, rfl, rfl⟩, fun h => (by cases h), Nat.zero_le _⟩
theorem parse_join {s t : ByteArray} {a b : S62} (hs : s.size ≤ 490) (ht : t.size ≤ 490) (pa : parseR s = .ok [a]) (pb : parseR t = .ok [b]) (hn : a.f0.length + b.f0.length ≤ 100)
    (ka : ¬ shapeOf a.f0 a.f1 a.f2 = 6) (kb : ¬ shapeOf b.f0 b.f1 b.f2 = 6) : parseR (s ++ ⟨#[59]⟩ ++ t) = .ok [a, b] := by
  obtain ⟨sa, la, ea, wa⟩ := parse_ok hs pa
  obtain ⟨sb, lb, eb, wb⟩ := parse_ok ht pb
  have hBl : (s ++ ⟨#[59]⟩ ++ t).data.toList = s.data.toList ++ 59 :: t.data.toList := by
    rw [ByteArray.data_append, ByteArray.data_append, Array.toList_append, Array.toList_append, List.append_assoc]; rfl
  have hBs : (s ++ ⟨#[59]⟩ ++ t).size = s.size + 1 + t.size := by
    rw [ByteArray.size_append, ByteArray.size_append]; rfl
  generalize s ++ ⟨#[59]⟩ ++ t = B at hBl hBs ⊢
  have in1 : In s B 0 (59 :: t.data.toList) := ⟨Nat.zero_le _, by rw [List.drop_zero]; exact hBl, Or.inr ⟨_, rfl⟩⟩
  have in2 : In t B (s.size + 1) [] := ⟨by omega, by
    rw [hBl, List.append_nil, List.drop_append, List.drop_eq_nil_of_le (show s.data.toList.length ≤ s.size + 1 from Nat.le_succ _), List.nil_append,
      show s.size + 1 - s.data.toList.length = 1 from Nat.add_sub_cancel_left (n := s.size) (m := 1), List.drop_one, List.tail_cons], Or.inl rfl⟩
  obtain ⟨ja, ta, _, qa⟩ := parse_sim (B := B) (δ := 0) (Y := 59 :: t.data.toList) (P := []) (i0 := 0) (fr := [0]) s.size (parse0 s) sa la (parse0_J s) (by rw [ea]; rfl) (by show s.size ≤ 0 + s.size; omega)
  obtain ⟨jb, tb, _, qb⟩ := parse_sim (B := B) (δ := s.size + 1) (Y := []) (P := [a]) (i0 := a.f0.length) (fr := [0] ++ [((s.size + 1 : Nat) : Int)]) t.size (parse0 t) sb lb (parse0_J t) (by rw [eb]; rfl) (by show t.size ≤ 0 + t.size; omega)
  have ia : sa.items = a.f0.length := by
    obtain ⟨x, hx, hl⟩ := ja.one
    rw [ea] at hx
    rw [← hl, List.cons.inj hx |>.1]
  have ib : sb.items = b.f0.length := by
    obtain ⟨x, hx, hl⟩ := jb.one
    rw [eb] at hx
    rw [← hl, List.cons.inj hx |>.1]
  obtain ⟨k1, hk1, e1⟩ := qa (by omega) in1
  obtain ⟨k2, hk2, e2⟩ := qb (by omega) in2
  have hk1 : k1 + 0 ≤ s.size := hk1
  have hk2 : k2 + 0 ≤ t.size := hk2
  have mid : ∀ g, parseL (g + 1) (lf B 0 [] 0 [0] sa) = parseL g (lf B (s.size + 1) [a] a.f0.length ([0] ++ [((s.size + 1 : Nat) : Int)]) (parse0 t)) := fun g => by
    have hh : (lf B 0 [] 0 [0] sa).at_ < (lf B 0 [] 0 [0] sa).s.size := by show 0 + sa.at_ < B.size; omega
    have hone : oneM (lf B 0 [] 0 [0] sa) = .ok (lf B (s.size + 1) [a] a.f0.length ([0] ++ [((s.size + 1 : Nat) : Int)]) (parse0 t)) := by
      unfold oneM
      rw [dif_pos hh]
      have hc : (lf B 0 [] 0 [0] sa).s[(lf B 0 [] 0 [0] sa).at_]'hh = 59 := by
        have := in1.after (by omega)
        rw [← this]
        show B[0 + sa.at_]'hh = _
        congr 2
      rw [hc]
      unfold oneC
      rw [if_pos (show ((59 : UInt8) == 59) = true from rfl)]
      unfold beginM
      have hsec : ([] ++ sa.secs) = [a] := ea
      rw [if_neg (show ¬ (lf B 0 [] 0 [0] sa).secs.length = 4 from (show ¬ ([] ++ sa.secs).length = 4 by rw [hsec]; show ¬ (1 : Nat) = 4; decide))]
      show Except.ok (⟨B, 0 + sa.at_ + 1, ([] ++ sa.secs) ++ [z62], [0] ++ [((0 + sa.at_ + 1 : Nat) : Int)], 0 + sa.items, false⟩ : RS) = Except.ok ⟨B, s.size + 1 + 0, [a] ++ [z62], [0] ++ [((s.size + 1 : Nat) : Int)], a.f0.length + 0, false⟩
      rw [hsec, ta, ia, Nat.zero_add, Nat.zero_add]
      rfl
    rw [parseL, if_pos hh, hone]
  have fin : ∀ g, parseL g (lf B (s.size + 1) [a] a.f0.length ([0] ++ [((s.size + 1 : Nat) : Int)]) sb) = .ok (lf B (s.size + 1) [a] a.f0.length ([0] ++ [((s.size + 1 : Nat) : Int)]) sb) := fun g => by
    cases g with
    | zero => rfl
    | succ g => rw [parseL, if_neg (show ¬ (lf B (s.size + 1) [a] a.f0.length ([0] ++ [((s.size + 1 : Nat) : Int)]) sb).at_ < (lf B (s.size + 1) [a] a.f0.length ([0] ++ [((s.size + 1 : Nat) : Int)]) sb).s.size from (show ¬ s.size + 1 + sb.at_ < B.size by omega))]
  have all : parseL B.size (parse0 B) = .ok (lf B (s.size + 1) [a] a.f0.length ([0] ++ [((s.size + 1 : Nat) : Int)]) sb) := by
    have f1 := e1 ((k2 + (t.size - k2 + (s.size - k1))) + 1)
    rw [mid, e2, fin, show k1 + ((k2 + (t.size - k2 + (s.size - k1))) + 1) = B.size by omega] at f1
    exact f1
  unfold parseR
  rw [if_neg (by omega), all]
  have hsecs : (lf B (s.size + 1) [a] a.f0.length ([0] ++ [((s.size + 1 : Nat) : Int)]) sb).secs = [a, b] := by show [a] ++ sb.secs = _; rw [eb]; rfl
  unfold parseEnd
  simp only [hsecs, wrong_two (wrong_one wa) (wrong_one wb) ka kb]
  rfl
end Go.Proofs.YtmbhjogohfcjgaaDoor.P
