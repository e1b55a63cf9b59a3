/- Plain law: of two texts that are patterns of one section each, the one with a semicolon and the other behind it is the pattern of both sections. -/
import Derived.Test.YtmbhjogohfcjgaaDoorPqa
namespace Go.Proofs.YtmbhjogohfcjgaaDoor.P
open Go.RowKit Go.Proofs.YtmbhjogohfcjgaaDoorW.PrintWords
set_option linter.unusedVariables false
set_option linter.unusedSimpArgs false

/-! ### bytes -/
theorem jget (s : ByteArray) (i : Nat) : s.get! i = s.data.toList.getD i 0 := by
  cases s with
  | mk bs => show bs[i]! = _; rw [List.getD_eq_getElem?_getD, Array.getElem?_toList, getElem!_def]; cases bs[i]? <;> rfl
theorem jext {s t : ByteArray} (h : s.data.toList = t.data.toList) : s = t := ByteArray.ext (Array.toList_inj.mp h)
theorem jlist (s : ByteArray) (i : Nat) (h : i < s.size) : s.data.toList[i]? = some (s[i]'h) := List.getElem?_eq_getElem (by exact h)
/-- The rune at the front of a list of bytes. -/
def decL (l : List UInt8) : Nat × Nat := if l.length = 0 then (65533, 0) else Lib.decodeN l.length (l.getD 0 0).toNat (l.getD 1 0).toNat (l.getD 2 0).toNat (l.getD 3 0).toNat
theorem decAt_list (s : ByteArray) (p : Nat) (h : p ≤ s.size) : decAt s p = decL (s.data.toList.drop p) := by
  have e : (s.extract p s.size).data.toList = s.data.toList.drop p := by
    rw [Lib.extract_data, List.take_of_length_le]
    rw [List.length_drop]; exact Nat.le_refl _
  unfold decAt Lib.decodeGo decL
  rw [← e]
  have e2 : (s.extract p s.size).data.toList.length = (s.extract p s.size).size := rfl
  rw [e2, Lib.decode_at]
  simp only [jget, Nat.zero_add, Nat.sub_zero]
theorem decodeN_more {n n' b0 b1 b2 b3 c1 c2 c3 : Nat} (hn : n ≤ n') (h1 : 1 < n → c1 = b1) (h2 : 2 < n → c2 = b2) (h3 : 3 < n → c3 = b3) (hok : ¬ Lib.decodeN n b0 b1 b2 b3 = (65533, 1)) : Lib.decodeN n' b0 c1 c2 c3 = Lib.decodeN n b0 b1 b2 b3 := by
  by_cases a : b0 < 128
  · unfold Lib.decodeN; rw [if_pos a, if_pos a]
  by_cases g1 : 1 < n
  · have := h1 g1; subst this
    by_cases g2 : 2 < n
    · have := h2 g2; subst this
      by_cases g3 : 3 < n
      · have := h3 g3; subst this
        unfold Lib.decodeN
        simp only [g1, g2, g3, show 1 < n' by omega, show 2 < n' by omega, show 3 < n' by omega]
      · unfold Lib.decodeN at hok ⊢
        simp only [g1, g2, g3, show 1 < n' by omega, show 2 < n' by omega] at hok ⊢
        by_cases k1 : b0 / 32 = 6
        · have k2 : ¬ b0 / 8 = 30 := by omega
          have k3 : ¬ b0 / 16 = 14 := by omega
          simp only [k1, k2, k3, false_and, true_and, and_false, if_false]
        · by_cases k2 : b0 / 16 = 14
          · have k3 : ¬ b0 / 8 = 30 := by omega
            simp only [k1, k2, k3, false_and, true_and, and_false, if_false]
          · exfalso; apply hok; simp only [a, k1, k2, false_and, and_false, if_false]
    · unfold Lib.decodeN at hok ⊢
      simp only [g1, g2, show 1 < n' by omega, show ¬ 3 < n by omega] at hok ⊢
      by_cases k1 : b0 / 32 = 6
      · have k2 : ¬ b0 / 8 = 30 := by omega
        have k3 : ¬ b0 / 16 = 14 := by omega
        simp only [k1, k2, k3, false_and, true_and, and_false, if_false]
      · exfalso; apply hok; simp only [a, k1, false_and, and_false, if_false]
  · exfalso; apply hok; unfold Lib.decodeN; simp only [a, g1, false_and, and_false, if_false]
theorem decL_app {l y : List UInt8} (hok : ¬ decL l = (65533, 1)) (h0 : ¬ (decL l).2 = 0) : decL (l ++ y) = decL l := by
  unfold decL at *
  by_cases hl : l.length = 0
  · rw [if_pos hl] at h0; exact absurd rfl h0
  · rw [if_neg hl] at hok h0 ⊢
    rw [if_neg (by rw [List.length_append]; omega)]
    have g : ∀ i, i < l.length → (l ++ y).getD i 0 = l.getD i 0 := fun i hi => by
      rw [List.getD_eq_getElem?_getD, List.getD_eq_getElem?_getD, List.getElem?_append_left hi]
    rw [g 0 (by omega)]
    exact decodeN_more (by rw [List.length_append]; omega) (fun h => by rw [g 1 h]) (fun h => by rw [g 2 h]) (fun h => by rw [g 3 h]) hok
theorem decodeN_cont {n b0 b1 b2 b3 : Nat} : (1 < (Lib.decodeN n b0 b1 b2 b3).2 → b1 / 64 = 2) ∧ (2 < (Lib.decodeN n b0 b1 b2 b3).2 → b2 / 64 = 2) ∧ (3 < (Lib.decodeN n b0 b1 b2 b3).2 → b3 / 64 = 2) ∧ (Lib.decodeN n b0 b1 b2 b3).2 ≤ 4 := by
  unfold Lib.decodeN
  repeat' split
  all_goals (simp only; omega)
/-- No byte inside a rune is a quote. -/
theorem decL_quote {l : List UInt8} {i : Nat} (h0 : 0 < i) (h : i < (decL l).2) : ¬ l[i]? = some 34 := by
  intro hq
  unfold decL at h
  split at h
  · exact absurd h (by simp)
  · have c := decodeN_cont (n := l.length) (b0 := (l.getD 0 0).toNat) (b1 := (l.getD 1 0).toNat) (b2 := (l.getD 2 0).toNat) (b3 := (l.getD 3 0).toNat)
    have g : (l.getD i 0).toNat = 34 := by rw [List.getD_eq_getElem?_getD, hq]; rfl
    have hi : i = 1 ∨ i = 2 ∨ i = 3 := by omega
    rcases hi with rfl | rfl | rfl
    · have := c.1 h; omega
    · have := c.2.1 h; omega
    · have := c.2.2.1 h; omega
theorem indexByte_app : ∀ (l y : List UInt8) (b : UInt8), 0 ≤ Lib.indexByte l b → Lib.indexByte (l ++ y) b = Lib.indexByte l b ∧ l[(Lib.indexByte l b).toNat]? = some b
  | [], _, _, h => absurd h (by unfold Lib.indexByte; decide)
  | x :: l, y, b, h => by
    unfold Lib.indexByte at h ⊢
    by_cases hx : (x == b) = true
    · rw [List.cons_append]
      simp only [hx, if_true]
      exact ⟨trivial, by show some x = some b; rw [beq_iff_eq.mp hx]⟩
    · rw [List.cons_append]
      simp only [if_neg hx] at h ⊢
      by_cases hm : (Lib.indexByte l b == -1) = true
      · rw [if_pos hm] at h; exact absurd h (by decide)
      · rw [if_neg hm] at h ⊢
        have hg := Lib.indexByte_ge l b
        have hne : ¬ Lib.indexByte l b = -1 := fun hh => hm (beq_iff_eq.mpr hh)
        obtain ⟨e1, e2⟩ := indexByte_app l y b (by omega)
        rw [e1, if_neg hm]
        refine ⟨rfl, ?_⟩
        have : (Lib.indexByte l b + 1).toNat = (Lib.indexByte l b).toNat + 1 := by omega
        rw [this, List.getElem?_cons_succ]; exact e2

/-! ### a text inside a longer one -/
/-- B holds A from place δ on; what follows is nothing, or begins with a semicolon. -/
structure In (A B : ByteArray) (δ : Nat) (Y : List UInt8) : Prop where
  le : δ ≤ B.size
  eq : B.data.toList.drop δ = A.data.toList ++ Y
  hd : Y = [] ∨ ∃ y, Y = 59 :: y
section
variable {A B : ByteArray} {δ : Nat} {Y : List UInt8}
theorem In.sz (h : In A B δ Y) : B.size = δ + A.size + Y.length := by
  have e := congrArg List.length h.eq
  rw [List.length_drop, List.length_append] at e
  have e1 : B.data.toList.length = B.size := rfl
  have e2 : A.data.toList.length = A.size := rfl
  have := h.le
  omega
theorem In.ix (h : In A B δ Y) (p : Nat) : B.data.toList[δ + p]? = (A.data.toList ++ Y)[p]? := by rw [← h.eq, List.getElem?_drop]
theorem In.get (h : In A B δ Y) {p : Nat} (hp : p < A.size) (hp' : δ + p < B.size) : B[δ + p]'hp' = A[p]'hp := by
  have e := h.ix p
  rw [jlist _ _ hp', List.getElem?_append_left (by exact hp), jlist _ _ hp] at e
  exact Option.some.inj e
theorem In.after (h : In A B δ Y) (hp' : δ + A.size < B.size) : B[δ + A.size]'hp' = 59 := by
  have e := h.ix A.size
  rw [jlist _ _ hp', List.getElem?_append_right (by exact Nat.le_refl _), show A.size - A.data.toList.length = 0 from Nat.sub_self _] at e
  rcases h.hd with rfl | ⟨y, rfl⟩
  · cases e
  · exact Option.some.inj e
theorem In.rest (h : In A B δ Y) {p : Nat} (hp : p ≤ A.size) : B.data.toList.drop (δ + p) = A.data.toList.drop p ++ Y := by
  rw [← List.drop_drop, h.eq, List.drop_append_of_le_length (by exact hp)]
theorem rest_list (s : ByteArray) (p : Nat) : (s.extract p s.size).data.toList = s.data.toList.drop p := by
  rw [Lib.extract_data, List.take_of_length_le]
  rw [List.length_drop]; exact Nat.le_refl _
theorem In.sub (h : In A B δ Y) {p q : Nat} (hp : p ≤ A.size) (hq : q ≤ A.size) : B.extract (δ + p) (δ + q) = A.extract p q := by
  apply jext
  rw [Lib.extract_data, Lib.extract_data, h.rest hp, Nat.add_sub_add_left, List.take_append_of_le_length]
  rw [List.length_drop]
  show q - p ≤ A.size - p
  omega
theorem In.dec (h : In A B δ Y) {p : Nat} (hp : p ≤ A.size) (hb : badAt A p = false) : decAt B (δ + p) = decAt A p := by
  have hsz := h.sz
  unfold badAt at hb
  rw [Bool.or_eq_false_iff] at hb
  have e := decAt_list A p hp
  rw [e, decAt_list B (δ + p) (by omega), h.rest hp]
  rw [e] at hb
  refine decL_app (fun hd => ?_) (fun hd => ?_)
  · rw [hd] at hb; exact absurd hb.2 (by decide)
  · rw [hd] at hb; exact absurd hb.1 (by decide)
theorem In.bad (h : In A B δ Y) {p : Nat} (hp : p ≤ A.size) (hb : badAt A p = false) : badAt B (δ + p) = false := by
  unfold badAt at hb ⊢
  rw [h.dec hp hb]; exact hb
theorem In.gen (h : In A B δ Y) {p : Nat} (hp : p ≤ A.size) : genB B (δ + p) = genB A p := by
  unfold genB Lib.hasPrefix
  rw [rest_list, rest_list, h.rest hp]
  generalize A.data.toList.drop p = l
  rcases h.hd with rfl | ⟨y, rfl⟩
  · rw [List.append_nil]
  · match l with
    | [] => rfl
    | [a] => simp [List.isPrefixOf]
    | [a, b] => simp [List.isPrefixOf]
    | [a, b, c] => simp [List.isPrefixOf]
    | [a, b, c, d] => simp [List.isPrefixOf]
    | [a, b, c, d, e] => simp [List.isPrefixOf]
    | [a, b, c, d, e, f] => simp [List.isPrefixOf]
    | a :: b :: c :: d :: e :: f :: g :: l => simp [List.isPrefixOf]
theorem In.exp (h : In A B δ Y) {p : Nat} (hp : p ≤ A.size) (c : UInt8) : expB c B (δ + p) = expB c A p := by
  unfold expB
  congr 1
  have hsz := h.sz
  by_cases hlt : p < A.size
  · rw [dif_pos hlt, dif_pos (by omega), h.get hlt]
  · obtain rfl : p = A.size := by omega
    rw [dif_neg hlt]
    by_cases h2 : δ + A.size < B.size
    · rw [dif_pos h2, h.after h2]; rfl
    · rw [dif_neg h2]

/-! ### the reader's state in the longer text -/
/-- The state st of a reader of A, as one of a reader of B that has P behind it, i0 items. -/
def lf (B : ByteArray) (δ : Nat) (P : List S62) (i0 : Nat) (fr : List Int) (st : RS) : RS := ⟨B, δ + st.at_, P ++ st.secs, fr, i0 + st.items, st.open_⟩
/-- A state of one section. -/
structure J (A : ByteArray) (st : RS) : Prop where
  s : st.s = A
  one : ∃ a, st.secs = [a] ∧ a.f0.length = st.items
  op : st.open_ = true → 0 < st.at_
  le : st.at_ ≤ A.size
theorem last_app (P : List S62) (a : S62) : lastSec (P ++ [a]) = a := by
  unfold lastSec
  rw [List.getD_eq_getElem?_getD, List.length_append, List.length_singleton, Nat.add_sub_cancel, List.getElem?_append_right (Nat.le_refl _), Nat.sub_self]; rfl
theorem set_app (P : List S62) (a b : S62) : (P ++ [a]).set ((P ++ [a]).length - 1) b = P ++ [b] := by
  rw [List.length_append, List.length_singleton, Nat.add_sub_cancel, List.set_append_right _ _ (Nat.le_refl _), Nat.sub_self]; rfl
variable {P : List S62} {i0 : Nat} {fr : List Int}
theorem put_sim {k : Int} {x : ByteArray} {pl pl' : Int} {st st2 : RS} (hJ : J A st) (h0 : 0 < st.at_) (h : putM k x pl st = .ok st2) :
    J A st2 ∧ st2.items = st.items + 1 ∧ st2.at_ = st.at_ ∧ (i0 + st2.items ≤ 100 → putM k x pl' (lf B δ P i0 fr st) = .ok (lf B δ P i0 fr st2)) := by
  obtain ⟨a, ha, hl⟩ := hJ.one
  unfold putM at h
  by_cases h1 : st.items = 100
  · rw [if_pos h1] at h; cases h
  · rw [if_neg h1] at h
    have h := (Except.ok.inj h).symm
    subst h
    have hls : lastSec st.secs = a := by rw [ha]; exact last_app [] a
    have had : addItem st.secs ⟨k, x⟩ = [{ a with f0 := a.f0 ++ [⟨k, x⟩] }] := by
      unfold addItem; rw [hls, ha]; exact set_app [] a _
    refine ⟨⟨hJ.s, ⟨_, had, ?_⟩, fun _ => h0, hJ.le⟩, rfl, rfl, fun hb => ?_⟩
    · show (a.f0 ++ [_]).length = st.items + 1
      rw [List.length_append, hl]; rfl
    · have hb : i0 + (st.items + 1) ≤ 100 := hb
      unfold putM
      rw [if_neg (show ¬ (lf B δ P i0 fr st).items = 100 from (show ¬ i0 + st.items = 100 by omega))]
      have hlP : lastSec (P ++ st.secs) = a := by rw [ha]; exact last_app P a
      have haP : addItem (P ++ st.secs) ⟨k, x⟩ = P ++ [{ a with f0 := a.f0 ++ [⟨k, x⟩] }] := by
        unfold addItem; rw [hlP, ha]; exact set_app P a _
      show Except.ok (⟨B, δ + st.at_, addItem (P ++ st.secs) ⟨k, x⟩, fr, i0 + st.items + 1, isOpen k ((lastSec (P ++ st.secs)).f0 ++ [⟨k, x⟩])⟩ : RS) = Except.ok ⟨B, δ + st.at_, P ++ addItem st.secs ⟨k, x⟩, fr, i0 + (st.items + 1), isOpen k ((lastSec st.secs).f0 ++ [⟨k, x⟩])⟩
      rw [hlP, haP, had, hls]
      rfl
theorem quoteL_at (pl stop : Nat) : ∀ (f : Nat) (st st2 : RS), quoteL pl stop f st = .ok st2 → st.at_ ≤ st2.at_
  | 0, st, st2, h => by rw [← Except.ok.inj h]; exact Nat.le_refl _
  | f + 1, st, st2, h => by
    unfold quoteL at h
    split at h
    · split at h
      · cases h
      · rcases hp : putM 1 (runeT st) st.at_ (runeS st) with x | st3
        · rw [hp] at h; cases h
        · rw [hp] at h
          have h9 := quoteL_at pl stop f st3 st2 h
          unfold putM at hp
          split at hp
          · cases hp
          · have hp := Except.ok.inj hp
            subst hp
            exact Nat.le_trans (Nat.le_add_right _ _) h9
    · rw [← Except.ok.inj h]; exact Nat.le_refl _
theorem quoteL_J {pl stop : Nat} (hq : A.data.toList[stop]? = some 34) : ∀ (f : Nat) (st st2 : RS), quoteL pl stop f st = .ok st2 → J A st → 0 < st.at_ → st.at_ ≤ stop → J A st2 ∧ 0 < st2.at_ ∧ st2.at_ ≤ stop ∧ st.items ≤ st2.items ∧ (i0 + st2.items ≤ 100 → In A B δ Y → ∀ pl', quoteL pl' (δ + stop) f (lf B δ P i0 fr st) = .ok (lf B δ P i0 fr st2))
  | 0, st, st2, h, hJ, h0, hs => by
    have h := Except.ok.inj h
    subst h
    exact ⟨hJ, h0, hs, Nat.le_refl _, fun _ _ _ => rfl⟩
  | f + 1, st, st2, h, hJ, h0, hs => by
    unfold quoteL at h
    by_cases hlt : st.at_ < stop
    · rw [if_pos hlt] at h
      by_cases hb : badAt st.s st.at_ = true
      · rw [if_pos hb] at h; cases h
      · rw [if_neg hb] at h
        have hb : badAt st.s st.at_ = false := by simpa using hb
        rcases hp : putM 1 (runeT st) st.at_ (runeS st) with x | st3
        · rw [hp] at h; cases h
        · rw [hp] at h
          have hs0 := hJ.s
          have hle := decAt_le st.s st.at_ (by rw [hs0]; exact hJ.le)
          have hpos := badAt_pos hb
          rw [hs0] at hle
          have hstop : st.at_ + (decAt A st.at_).2 ≤ stop := by
            rcases Nat.lt_or_ge stop (st.at_ + (decAt A st.at_).2) with h9 | h9
            · exfalso
              rw [decAt_list A st.at_ hJ.le] at h9
              refine decL_quote (l := A.data.toList.drop st.at_) (i := stop - st.at_) (by omega) (by omega) ?_
              rw [List.getElem?_drop, show st.at_ + (stop - st.at_) = stop by omega]; exact hq
            · exact h9
          have hJr : J A (runeS st) := ⟨hs0, hJ.one, fun _ => by show 0 < st.at_ + _; omega, by show st.at_ + (decAt st.s st.at_).2 ≤ _; rw [hs0]; exact hle⟩
          obtain ⟨j3, i3, a3, e3⟩ := put_sim (B := B) (δ := δ) (P := P) (i0 := i0) (fr := fr) (pl' := ((δ + st.at_ : Nat) : Int)) hJr (show 0 < st.at_ + _ by omega) hp
          have a3 : st3.at_ = st.at_ + (decAt st.s st.at_).2 := a3
          have i3 : st3.items = st.items + 1 := i3
          rw [hs0] at a3
          obtain ⟨j4, z4, s4, i4, e4⟩ := quoteL_J hq f st3 st2 h j3 (by omega) (by omega)
          refine ⟨j4, z4, s4, by omega, fun hb2 hin pl' => ?_⟩
          have e3 := e3 (by omega)
          have hd : decAt B (δ + st.at_) = decAt st.s st.at_ := by rw [hs0] at hb ⊢; exact hin.dec hJ.le hb
          have hbd : badAt B (δ + st.at_) = false := by rw [hs0] at hb; exact hin.bad hJ.le hb
          have hT : runeT (lf B δ P i0 fr st) = runeT st := by
            unfold runeT lf
            simp only []
            rw [hd, Nat.add_assoc, hs0, hin.sub hJ.le (by exact hle)]
          have hS : runeS (lf B δ P i0 fr st) = lf B δ P i0 fr (runeS st) := by
            unfold runeS lf
            simp only []
            rw [hd, Nat.add_assoc]
          unfold quoteL
          rw [if_pos (show (lf B δ P i0 fr st).at_ < δ + stop from (show δ + st.at_ < δ + stop by omega)), if_neg (show ¬ badAt (lf B δ P i0 fr st).s (lf B δ P i0 fr st).at_ = true from (show ¬ badAt B (δ + st.at_) = true by rw [hbd]; decide)), hT, hS]
          have e3 : putM 1 (runeT st) ((lf B δ P i0 fr st).at_ : Int) (lf B δ P i0 fr (runeS st)) = .ok (lf B δ P i0 fr st3) := e3
          rw [e3]
          exact e4 hb2 hin pl'
    · rw [if_neg hlt] at h
      have h := Except.ok.inj h
      subst h
      refine ⟨hJ, h0, hs, Nat.le_refl _, fun _ _ pl' => ?_⟩
      unfold quoteL
      rw [if_neg (show ¬ (lf B δ P i0 fr st).at_ < δ + stop from (show ¬ δ + st.at_ < δ + stop by omega))]
end
end Go.Proofs.YtmbhjogohfcjgaaDoor.P
