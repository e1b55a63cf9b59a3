/- What one step of the reader does (written by wip/tools/genone.py). -/
import Derived.Test.YtmbhjogohfcjgaaDoorPq6
import Derived.Test.YtmbhjogohfcjgaaDoorSh4
namespace Go.Proofs.YtmbhjogohfcjgaaDoor.P
open Go.RowKit Go.Proofs.YtmbhjogohfcjgaaDoorW.PrintWords Go.Proofs.YtmbhjogohfcjgaaDoorW.PrintLast Go.Proofs.YtmbhjogohfcjgaaDoorW.PrintMore
set_option linter.unusedVariables false
set_option linter.unusedSimpArgs false
theorem GL.belowR {w w' : World} {R : Nat} (h : GL w) (hR : 5 ≤ R) (hb : Below R w w') : GL w' := by
 have c : ∀ a : Addr, a.block < 5 → w'.cell? a = w.cell? a := fun a ha => hb.cell (p := a) (Nat.lt_of_lt_of_le ha hR)
 refine ⟨Nat.le_trans h.size hb.size, ⟨fun i hi => (c _ (by show 2 < 5; decide)).trans (h.tabs.1 i hi), fun i hi => ⟨(c _ (by show 3 < 5; decide)).trans (h.tabs.2 i hi).1, (c _ (by show 3 < 5; decide)).trans (h.tabs.2 i hi).2⟩⟩, ?_⟩
 obtain ⟨m, hm⟩ := h.m
 exact ⟨m, (c _ (by decide)).trans hm⟩
def beginS (st : RS) : RS := { st with secs := st.secs ++ [z62], from_ := st.from_ ++ [(st.at_ : Int)], open_ := false }
def beginM (st : RS) : Except (Int × Int) RS := if st.secs.length = 4 then .error (5, (st.at_ : Int) - 1) else .ok (beginS st)
theorem lastSec_begin (l : List S62) : lastSec (l ++ [z62]) = z62 := by
 unfold lastSec
 rw [List.length_append, List.length_singleton, Nat.add_sub_cancel, List.getD_eq_getElem?_getD, List.getElem?_append_right (Nat.le_refl _)]
 simp
theorem Inv.begin {st : RS} (h : Inv st) (h4 : ¬ st.secs.length = 4) : Inv (beginS st) := by
 refine ⟨?_, ?_, ?_, h.it, ?_, ?_, ?_, h.pl, h.sz⟩
 ·show 0 < (st.secs ++ [z62]).length; simp
 ·show (st.secs ++ [z62]).length ≤ 4; have := h.n4; simp; omega
 ·show (st.from_ ++ [(st.at_ : Int)]).length = (st.secs ++ [z62]).length; simp [h.fl]
 ·show (lastSec (st.secs ++ [z62])).f0.length ≤ st.items; rw [lastSec_begin]; exact Nat.zero_le _
 ·show 0 ≤ (lastSec (st.secs ++ [z62])).f2; rw [lastSec_begin]; exact Int.le_refl _
 ·show (lastSec (st.secs ++ [z62])).f2 ≤ st.at_; rw [lastSec_begin]; exact Int.natCast_nonneg _
theorem begin_walk (R : Nat) (st : RS) (vS vF : Value) (w : World) (hI : Inv st) (ha : 1 ≤ st.at_) (h : Rd R w st vS vF) :
  Calls Tryd.prog 67 #[.pointer (some ⟨R, 0, none⟩)] w (Res R w (beginM st)) := by
 unfold beginM
 by_cases h1 : st.secs.length = 4
 ·rw [if_pos h1]
  exact (begin_panic R st vS vF w h1 ha (by have := hI.pl; have := hI.sz; omega) h).mono fun e w' hh => ⟨hh.1, by rw [← hh.2]; exact Below.refl _ _⟩
 ·rw [if_neg h1]
  exact begin_ok R st vS vF w (by have := hI.n4; omega) (by have := hI.n4; rw [hI.fl]; omega) h
def runeT (st : RS) : ByteArray := st.s.extract st.at_ (st.at_ + (decAt st.s st.at_).2)
def runeS (st : RS) : RS := { st with at_ := st.at_ + (decAt st.s st.at_).2 }
theorem badAt_pos {s : ByteArray} {p : Nat} (h : badAt s p = false) : 0 < (decAt s p).2 := by
 unfold badAt at h
 rcases Nat.eq_zero_or_pos (decAt s p).2 with h0 | h0
 ·rw [h0] at h; simp at h
 ·exact h0
theorem Inv.rune {st : RS} (h : Inv st) (hp : st.at_ ≤ st.s.size) : Inv (runeS st) := h.at_ _ (by omega) (by have := decAt_le st.s st.at_ hp; omega)
def bsM (pl : Nat) (st : RS) : Except (Int × Int) RS := if badAt st.s st.at_ = true then .error (12, pl) else putM 1 (runeT st) pl (runeS st)
def usM (pl : Nat) (st : RS) : Except (Int × Int) RS := if badAt st.s st.at_ = true then .error (12, pl) else putM 1 ⟨#[32]⟩ pl (runeS st)
def nextDg (st : RS) : Bool := if h : st.at_ < st.s.size then isDg (st.s[st.at_]'h) else false
def prevC (s : ByteArray) (pl : Nat) : Bool := if h : pl - 1 < s.size then (s[pl - 1]'h).toNat == 44 else false
def commaM (pl : Nat) (st : RS) : Except (Int × Int) RS :=
 if st.open_ = false then .error (12, pl)
 else if nextDg st = true then (if prevC st.s pl = true then .error (12, pl) else .ok { st with secs := setLast st.secs { lastSec st.secs with f1 := true } })
 else .ok { st with secs := setLast st.secs { lastSec st.secs with f2 := (lastSec st.secs).f2 + 1 } }
theorem setLast_len (l : List S62) (s : S62) : (setLast l s).length = l.length := by simp [setLast]
theorem lastSec_set {l : List S62} (h : 0 < l.length) (s : S62) : lastSec (setLast l s) = s := by
 unfold lastSec
 rw [setLast_len]
 unfold setLast
 rw [List.getD_eq_getElem?_getD, List.getElem?_set_self (by omega)]; rfl
theorem Inv.set {st : RS} (h : Inv st) (s : S62) (h0 : s.f0 = (lastSec st.secs).f0) (h2 : 0 ≤ s.f2) (h3 : s.f2 ≤ st.at_) : Inv { st with secs := setLast st.secs s } := by
 have hl := lastSec_set h.n0 s
 refine ⟨?_, ?_, ?_, h.it, ?_, ?_, ?_, h.pl, h.sz⟩
 ·show 0 < (setLast st.secs s).length; rw [setLast_len]; exact h.n0
 ·show (setLast st.secs s).length ≤ 4; rw [setLast_len]; exact h.n4
 ·show st.from_.length = (setLast st.secs s).length; rw [setLast_len]; exact h.fl
 ·show (lastSec (setLast st.secs s)).f0.length ≤ st.items; rw [hl, h0]; exact h.il
 ·show 0 ≤ (lastSec (setLast st.secs s)).f2; rw [hl]; exact h2
 ·show (lastSec (setLast st.secs s)).f2 ≤ st.at_; rw [hl]; exact h3
theorem comma_walk (R : Nat) (st : RS) (vS vF : Value) (pl : Nat) (w : World) (hI : Inv st) (ha : st.at_ ≤ st.s.size) (hp : st.open_ = true → 1 ≤ pl) (hp2 : pl ≤ st.s.size) (h : Rd R w st vS vF) :
  Calls Tryd.prog 98 #[.pointer (some ⟨R, 0, none⟩), .int .i64 pl] w (Res R w (commaM pl st)) := by
 have hs : st.s.size ≤ 2000 := by have := hI.sz; omega
 have hm : R ≤ w.heap.size := Nat.le_of_lt (blk_lt h.blk)
 have err : ∀ e w', (e = fault 12 pl ∧ Below w.heap.size w w') → Res R w (.error (12, (pl : Int))) e w' := fun e w' hh => ⟨hh.1, hh.2.mono hm⟩
 have hsc : (lastSec st.secs).f2 ≤ 10000 := by have := hI.sc1; omega
 unfold commaM nextDg
 by_cases hop : st.open_ = false
 ·rw [if_pos hop]
  by_cases hlt : st.at_ < st.s.size
  ·cases hdg : isDg (st.s[st.at_]'hlt) with
   | false => exact (comma_nodg_closed R st vS vF pl w hs ha hlt hdg hop h).mono err
   | true => exact (comma_dg_closed R st vS vF pl w hs ha hlt hdg hop h).mono err
  ·exact (comma_nolt_closed R st vS vF pl w hs ha hlt hop h).mono err
 ·rw [if_neg hop]
  have hop : st.open_ = true := by simpa using hop
  by_cases hlt : st.at_ < st.s.size
  ·rw [dif_pos hlt]
   cases hdg : isDg (st.s[st.at_]'hlt) with
   | false => rw [if_neg (by simp)]; exact comma_nodg_scale R st vS vF pl w hs ha hlt hdg hop hI.n0 hI.n4 hI.sc0 hsc h
   | true =>
    rw [if_pos rfl]
    have hp1 := hp hop
    unfold prevC
    rw [dif_pos (show pl - 1 < st.s.size by omega)]
    by_cases hq : (st.s[pl - 1]'(by omega)).toNat = 44
    ·rw [if_pos (beq_iff_eq.mpr hq)]; exact (comma_dg_quoted R st vS vF pl w hs ha hlt hdg hop hp1 hp2 hq h).mono err
    ·rw [if_neg (fun h9 => hq (beq_iff_eq.mp h9))]; exact comma_dg_grouped R st vS vF pl w hs ha hlt hdg hop hp1 hp2 hq hI.n0 hI.n4 h
  ·rw [dif_neg hlt, if_neg (by simp)]; exact comma_nolt_scale R st vS vF pl w hs ha hlt hop hI.n0 hI.n4 hI.sc0 hsc h
def quoteL (pl stop : Nat) : Nat → RS → Except (Int × Int) RS
 | 0, st => .ok st
 | f + 1, st => if st.at_ < stop then (if badAt st.s st.at_ = true then .error (12, pl) else match putM 1 (runeT st) st.at_ (runeS st) with | .error x => .error x | .ok st2 => quoteL pl stop f st2) else .ok st
def bump : Except (Int × Int) RS → Except (Int × Int) RS
 | .error x => .error x
 | .ok st => .ok { st with at_ := st.at_ + 1 }
def nextQ (st : RS) : Int := Lib.indexByte (st.s.extract st.at_ st.s.size).data.toList 34
def quoteM (pl : Nat) (st : RS) : Except (Int × Int) RS :=
 if nextQ st < 0 then .error (12, pl)
 else if Lib.validD (st.s.extract st.at_ (st.at_ + (nextQ st).toNat)).data.toList = false then .error (12, pl)
 else bump (quoteL pl (st.at_ + (nextQ st).toNat) (nextQ st).toNat { st with open_ := false })
def oneC (c : UInt8) (pl : Nat) (st : RS) : Except (Int × Int) RS :=
 if c == 59 then beginM st else if c == 34 then quoteM pl st else if c == 92 then bsM pl st else if c == 95 then usM pl st else if c == 44 then commaM pl st
 else if c == 48 || c == 35 || c == 63 then putM 2 (st.s.extract pl st.at_) pl st else otherM c pl st
def oneM (st : RS) : Except (Int × Int) RS := if h : st.at_ < st.s.size then oneC (st.s[st.at_]'h) st.at_ { st with at_ := st.at_ + 1 } else .ok st
theorem putM_ok {kind : Int} {text : ByteArray} {pl : Int} {st st' : RS} (h : putM kind text pl st = .ok st') (hI : Inv st) : Inv st' ∧ st'.at_ = st.at_ ∧ st'.s = st.s := by
 unfold putM at h
 by_cases h1 : st.items = 100
 ·rw [if_pos h1] at h; cases h
 ·rw [if_neg h1] at h
  have h := Except.ok.inj h
  subst h
  exact ⟨hI.put h1 kind text, rfl, rfl⟩
theorem quoteL_ok (pl stop : Nat) : ∀ (f : Nat) (st st' : RS), quoteL pl stop f st = .ok st' → Inv st → stop ≤ st.s.size → st.at_ ≤ st.s.size → Inv st' ∧ st.at_ ≤ st'.at_ ∧ st'.s = st.s ∧ st'.at_ ≤ st'.s.size
 | 0, st, st', h, hI, hs, ha => by
  have h := Except.ok.inj h
  subst h
  exact ⟨hI, Nat.le_refl _, rfl, ha⟩
 | f + 1, st, st', h, hI, hs, ha => by
  unfold quoteL at h
  by_cases hlt : st.at_ < stop
  ·rw [if_pos hlt] at h
   by_cases hb : badAt st.s st.at_ = true
   ·rw [if_pos hb] at h; cases h
   ·rw [if_neg hb] at h
    rcases hp : putM 1 (runeT st) st.at_ (runeS st) with x | st2
    ·rw [hp] at h; cases h
    ·rw [hp] at h
     have hle := decAt_le st.s st.at_ ha
     obtain ⟨i2, a2, s2⟩ := putM_ok hp (hI.rune ha)
     have a2' : st2.at_ = st.at_ + (decAt st.s st.at_).2 := a2
     have s2' : st2.s = st.s := s2
     obtain ⟨i3, a3, s3, l3⟩ := quoteL_ok pl stop f st2 st' h i2 (by rw [s2']; exact hs) (by rw [a2', s2']; exact hle)
     exact ⟨i3, by omega, s3.trans s2', l3⟩
  ·rw [if_neg hlt] at h
   have h := Except.ok.inj h
   subst h
   exact ⟨hI, Nat.le_refl _, rfl, ha⟩
theorem indexByte_lt : ∀ (l : List UInt8) (b : UInt8), Lib.indexByte l b < (l.length : Int)
 | [], _ => by unfold Lib.indexByte; decide
 | x :: l, b => by
  have h := indexByte_lt l b
  have hl : (((x :: l).length : Nat) : Int) = (l.length : Int) + 1 := by simp
  rw [hl]
  unfold Lib.indexByte
  split
  ·omega
  ·split <;> omega
theorem nextQ_lt (st : RS) (ha : st.at_ ≤ st.s.size) (h : 0 ≤ nextQ st) : st.at_ + (nextQ st).toNat ≤ st.s.size := by
 have hl : (st.s.extract st.at_ st.s.size).data.toList.length = st.s.size - st.at_ := (show _ = (st.s.extract st.at_ st.s.size).size from rfl).trans (extract_size _ _ ha)
 have h1 := indexByte_lt (st.s.extract st.at_ st.s.size).data.toList 34
 rw [hl] at h1
 have h1 : nextQ st < ((st.s.size - st.at_ : Nat) : Int) := h1
 omega
theorem quoteM_ok {pl : Nat} {st st' : RS} (h : quoteM pl st = .ok st') (hI : Inv st) (ha : st.at_ ≤ st.s.size) : Inv st' ∧ st.at_ ≤ st'.at_ ∧ st'.s = st.s := by
 unfold quoteM at h
 by_cases h1 : nextQ st < 0
 ·rw [if_pos h1] at h; cases h
 ·rw [if_neg h1] at h
  split at h
  ·cases h
  ·rcases hq : quoteL pl (st.at_ + (nextQ st).toNat) (nextQ st).toNat { st with open_ := false } with x | st2
   ·rw [hq] at h; cases h
   ·rw [hq] at h
    have h := Except.ok.inj h
    subst h
    obtain ⟨i2, a2, s2, l2⟩ := quoteL_ok _ _ _ _ _ hq hI.shut (nextQ_lt st ha (by omega)) ha
    have a2' : st.at_ ≤ st2.at_ := a2
    have s2' : st2.s = st.s := s2
    exact ⟨i2.at_ (st2.at_ + 1) (by omega) (by omega), show st.at_ ≤ st2.at_ + 1 by omega, s2'⟩
theorem otherM_ok {c : UInt8} {pl : Nat} {st st' : RS} (h : otherM c pl st = .ok st') (hI : Inv st) (hp : pl < st.at_) (hp2 : st.at_ ≤ st.s.size) (hsc : (lastSec st.secs).f2 ≤ pl) : Inv st' ∧ pl < st'.at_ ∧ st'.s = st.s := by
 unfold otherM at h
 split at h
 ·obtain ⟨a, b, c⟩ := putM_ok h hI; exact ⟨a, by omega, c⟩
 ·split at h
  ·obtain ⟨a, b, c⟩ := putM_ok h hI; exact ⟨a, by omega, c⟩
  ·split at h
   ·rename_i hg
    have hg7 := genB_le hg
    have hI2 : Inv { st with at_ := pl + 7 } := ⟨hI.n0, hI.n4, hI.fl, hI.it, hI.il, hI.sc0, show (lastSec st.secs).f2 ≤ ((pl + 7 : Nat) : Int) by omega, Nat.le_succ_of_le hg7, hI.sz⟩
    obtain ⟨a, b, c⟩ := putM_ok h hI2; exact ⟨a, by have b : st'.at_ = pl + 7 := b; omega, c⟩
   ·split at h
    ·rename_i he
     have hI2 : Inv { st with at_ := st.at_ + 1 } := hI.at_ _ (by omega) (by omega)
     obtain ⟨a, b, c⟩ := putM_ok h hI2; exact ⟨a, by have b : st'.at_ = st.at_ + 1 := b; omega, c⟩
    ·cases h
theorem oneC_ok {c : UInt8} {pl : Nat} {st st' : RS} (h : oneC c pl st = .ok st') (hI : Inv st) (hp : pl < st.at_) (hp2 : st.at_ ≤ st.s.size) (hsc : (lastSec st.secs).f2 ≤ pl) : Inv st' ∧ pl < st'.at_ ∧ st'.s = st.s := by
 unfold oneC at h
 split at h
 ·unfold beginM at h
  split at h
  ·cases h
  ·rename_i h4
   have h := Except.ok.inj h
   subst h
   exact ⟨hI.begin h4, hp, rfl⟩
 ·split at h
  ·obtain ⟨a, b, c⟩ := quoteM_ok h hI hp2; exact ⟨a, by omega, c⟩
  ·split at h
   ·unfold bsM at h
    split at h
    ·cases h
    ·obtain ⟨a, b, c⟩ := putM_ok h (hI.rune hp2); exact ⟨a, by have b : st'.at_ = st.at_ + _ := b; omega, c⟩
   ·split at h
    ·unfold usM at h
     split at h
     ·cases h
     ·obtain ⟨a, b, c⟩ := putM_ok h (hI.rune hp2); exact ⟨a, by have b : st'.at_ = st.at_ + _ := b; omega, c⟩
    ·split at h
     ·unfold commaM at h
      split at h
      ·cases h
      ·split at h
       ·split at h
        ·cases h
        ·have h := Except.ok.inj h
         subst h
         exact ⟨hI.set _ rfl hI.sc0 hI.sc1, hp, rfl⟩
       ·have h := Except.ok.inj h
        subst h
        exact ⟨hI.set _ rfl (show 0 ≤ (lastSec st.secs).f2 + 1 by have := hI.sc0; omega) (show (lastSec st.secs).f2 + 1 ≤ (st.at_ : Int) by omega), hp, rfl⟩
     ·split at h
      ·obtain ⟨a, b, c⟩ := putM_ok h hI; exact ⟨a, by omega, c⟩
      ·exact otherM_ok h hI hp hp2 hsc
theorem oneM_ok {st st' : RS} (h : oneM st = .ok st') (hI : Inv st) (hlt : st.at_ < st.s.size) : Inv st' ∧ st.at_ < st'.at_ ∧ st'.s = st.s := by
 unfold oneM at h
 rw [dif_pos hlt] at h
 have hI2 : Inv { st with at_ := st.at_ + 1 } := hI.at_ (st.at_ + 1) (by omega) (by omega)
 have h9 := oneC_ok (st := { st with at_ := st.at_ + 1 }) (pl := st.at_) h hI2 (Nat.lt_succ_self st.at_) hlt hI.sc1
 exact h9
end Go.Proofs.YtmbhjogohfcjgaaDoor.P
