/- Parse: what it answers; every section is small. -/
import Derived.Test.YtmbhjogohfcjgaaDoorPq10
import Derived.Test.YtmbhjogohfcjgaaDoorPs
namespace Go.Proofs.YtmbhjogohfcjgaaDoor.P
open Go.RowKit Go.Proofs.YtmbhjogohfcjgaaDoorW.PrintWords Go.Proofs.YtmbhjogohfcjgaaDoorW.PrintLast Go.Proofs.YtmbhjogohfcjgaaDoorW.PrintMore
set_option linter.unusedVariables false
set_option linter.unusedSimpArgs false
def Small (st : RS) : Prop := ∀ x ∈ st.secs, x.f0.length ≤ st.items
theorem putM_small {kind : Int} {text : ByteArray} {pl : Int} {st st' : RS} (h : putM kind text pl st = .ok st') (hI : Inv st) (hS : Small st) : Small st' := by
 unfold putM at h
 by_cases h1 : st.items = 100
 ·rw [if_pos h1] at h; cases h
 ·rw [if_neg h1] at h
  have h := Except.ok.inj h
  subst h
  intro x hx
  show x.f0.length ≤ st.items + 1
  have hx : x ∈ st.secs.set (st.secs.length - 1) _ := hx
  rcases List.mem_or_eq_of_mem_set hx with hx | hx
  ·exact Nat.le_succ_of_le (hS x hx)
  ·subst hx
   have h2 := hI.il
   simp only [List.length_append, List.length_singleton]
   omega
theorem quoteL_small (pl stop : Nat) : ∀ (f : Nat) (st st' : RS), quoteL pl stop f st = .ok st' → Inv st → stop ≤ st.s.size → st.at_ ≤ st.s.size → Small st → Small st'
 | 0, st, st', h, hI, hs, ha, hS => by
  have h := Except.ok.inj h
  subst h
  exact hS
 | f + 1, st, st', h, hI, hs, ha, hS => by
  unfold quoteL at h
  by_cases hlt : st.at_ < stop
  ·rw [if_pos hlt] at h
   by_cases hb : badAt st.s st.at_ = true
   ·rw [if_pos hb] at h; cases h
   ·rw [if_neg hb] at h
    rcases hp : putM 1 (runeT st) st.at_ (runeS st) with x | st2
    ·rw [hp] at h; cases h
    ·rw [hp] at h
     have hle := decAt_le st.s st.at_ ha
     obtain ⟨i2, a2, s2⟩ := putM_ok hp (hI.rune ha)
     have a2' : st2.at_ = st.at_ + (decAt st.s st.at_).2 := a2
     have s2' : st2.s = st.s := s2
     exact quoteL_small pl stop f st2 st' h i2 (by rw [s2']; exact hs) (by rw [a2', s2']; exact hle) (putM_small hp (hI.rune ha) hS)
  ·rw [if_neg hlt] at h
   have h := Except.ok.inj h
   subst h
   exact hS
theorem quoteM_small {pl : Nat} {st st' : RS} (h : quoteM pl st = .ok st') (hI : Inv st) (ha : st.at_ ≤ st.s.size) (hS : Small st) : Small st' := by
 unfold quoteM at h
 by_cases h1 : nextQ st < 0
 ·rw [if_pos h1] at h; cases h
 ·rw [if_neg h1] at h
  split at h
  ·cases h
  ·rcases hq : quoteL pl (st.at_ + (nextQ st).toNat) (nextQ st).toNat { st with open_ := false } with x | st2
   ·rw [hq] at h; cases h
   ·rw [hq] at h
    have h := Except.ok.inj h
    subst h
    have h9 := quoteL_small pl _ _ _ st2 hq hI.shut (nextQ_lt st ha (by omega)) ha hS
    exact h9
theorem otherM_small {c : UInt8} {pl : Nat} {st st' : RS} (h : otherM c pl st = .ok st') (hI : Inv st) (hp2 : st.at_ ≤ st.s.size) (hsc : (lastSec st.secs).f2 ≤ pl) (hS : Small st) : Small st' := by
 unfold otherM at h
 split at h
 ·exact putM_small h hI hS
 ·split at h
  ·exact putM_small h hI hS
  ·split at h
   ·rename_i hg
    have hg7 := genB_le hg
    have hI2 : Inv { st with at_ := pl + 7 } := ⟨hI.n0, hI.n4, hI.fl, hI.it, hI.il, hI.sc0, show (lastSec st.secs).f2 ≤ ((pl + 7 : Nat) : Int) by omega, Nat.le_succ_of_le hg7, hI.sz⟩
    exact putM_small h hI2 hS
   ·split at h
    ·have hI2 : Inv { st with at_ := st.at_ + 1 } := hI.at_ (st.at_ + 1) (by omega) (by omega)
     exact putM_small h hI2 hS
    ·cases h
theorem set_small {st : RS} (hI : Inv st) (hS : Small st) (s : S62) (h0 : s.f0 = (lastSec st.secs).f0) : Small { st with secs := setLast st.secs s } := by
 intro x hx
 have hx : x ∈ st.secs.set (st.secs.length - 1) s := hx
 rcases List.mem_or_eq_of_mem_set hx with hx | hx
 ·exact hS x hx
 ·subst hx; rw [h0]; exact hI.il
theorem oneC_small {c : UInt8} {pl : Nat} {st st' : RS} (h : oneC c pl st = .ok st') (hI : Inv st) (hp2 : st.at_ ≤ st.s.size) (hsc : (lastSec st.secs).f2 ≤ pl) (hS : Small st) : Small st' := by
 unfold oneC at h
 split at h
 ·unfold beginM at h
  split at h
  ·cases h
  ·have h := Except.ok.inj h
   subst h
   intro x hx
   have hx : x ∈ st.secs ++ [z62] := hx
   rcases List.mem_append.1 hx with hx | hx
   ·exact hS x hx
   ·rw [List.mem_singleton.1 hx]; exact Nat.zero_le _
 ·split at h
  ·exact quoteM_small h hI hp2 hS
  ·split at h
   ·unfold bsM at h
    split at h
    ·cases h
    ·exact putM_small h (hI.rune hp2) hS
   ·split at h
    ·unfold usM at h
     split at h
     ·cases h
     ·exact putM_small h (hI.rune hp2) hS
    ·split at h
     ·unfold commaM at h
      split at h
      ·cases h
      ·split at h
       ·split at h
        ·cases h
        ·have h := Except.ok.inj h
         subst h
         exact set_small hI hS _ rfl
       ·have h := Except.ok.inj h
        subst h
        exact set_small hI hS _ rfl
     ·split at h
      ·exact putM_small h hI hS
      ·exact otherM_small h hI hp2 hsc hS
theorem oneM_small {st st' : RS} (h : oneM st = .ok st') (hI : Inv st) (hlt : st.at_ < st.s.size) (hS : Small st) : Small st' := by
 unfold oneM at h
 rw [dif_pos hlt] at h
 have hI2 : Inv { st with at_ := st.at_ + 1 } := hI.at_ (st.at_ + 1) (by omega) (by omega)
 have h9 := oneC_small (st := { st with at_ := st.at_ + 1 }) (pl := st.at_) h hI2 hlt hI.sc1 hS
 exact h9
def parseL : Nat → RS → Except (Int × Int) RS
 | 0, st => .ok st
 | f + 1, st => if st.at_ < st.s.size then (match oneM st with | .error x => .error x | .ok st2 => parseL f st2) else .ok st
def parse0 (s : ByteArray) : RS := ⟨s, 0, [z62], [0], 0, false⟩
def parseEnd : Except (Int × Int) RS → Except (Int × Int) (List S62)
 | .error x => .error x
 | .ok st => if 0 ≤ wrongOf st.secs then .error (12, st.from_.getD (wrongOf st.secs).toNat 0) else .ok st.secs
def parseR (s : ByteArray) : Except (Int × Int) (List S62) := if 1000 < s.size then .error (4, 0) else parseEnd (parseL s.size (parse0 s))
theorem parse0_inv (s : ByteArray) (hs : s.size ≤ 1000) : Inv (parse0 s) := ⟨Nat.zero_lt_one, show 1 ≤ 4 by decide, rfl, show 0 ≤ 100 by decide, show (lastSec [z62]).f0.length ≤ 0 by decide, show 0 ≤ (lastSec [z62]).f2 by decide, show (lastSec [z62]).f2 ≤ ((0 : Nat) : Int) by decide, Nat.zero_le _, hs⟩
theorem parse0_small (s : ByteArray) : Small (parse0 s) := fun x hx => by rw [List.mem_singleton.1 hx]; exact Nat.zero_le _
theorem wrongOf_lt (l : List S62) : wrongOf l < l.length := by
 unfold wrongOf
 split
 ·rename_i i h
  have := List.mem_range.1 (List.mem_of_find?_eq_some h)
  omega
 ·omega
set_option maxRecDepth 100000 in
set_option maxHeartbeats 2000000 in
theorem parse_long (s : ByteArray) (w : World) (hs : 1000 < s.size) :
  Calls Tryd.prog 37 #[.string s] w fun e w' => e = .returned (.tuple #[.agg #[.slice none 0 0], .int .i64 4, .int .i64 0]) ∧ Below w.heap.size w w' := by
 have hl : decide (1000 < (s.size : Int)) = true := decide_eq_true (by omega)
 go_enter_defers Tryd.func37, Tryd.ntmps37
 go_wp2
 have hb := below_alloc (below_alloc (below_alloc (Below.refl w.heap.size w) (.cells #[.slice none 0 0] 55 (0, 0))) (.cells #[.int .i64 4] 41 (0, 0))) (.cells #[.int .i64 0] 3 (0, 0))
 simp [bodyPostD, Leaves, settle, results, Tryd.results37, go_sem, hb]
end Go.Proofs.YtmbhjogohfcjgaaDoor.P
