/- What put does, as one outcome; the walk of reader.other. -/
import Derived.Test.YtmbhjogohfcjgaaDoorPq4
namespace Go.Proofs.YtmbhjogohfcjgaaDoor.P
open Go.RowKit Go.Proofs.YtmbhjogohfcjgaaDoorW.PrintWords Go.Proofs.YtmbhjogohfcjgaaDoorW.PrintLast Go.Proofs.YtmbhjogohfcjgaaDoorW.PrintMore
set_option linter.unusedVariables false
set_option linter.unusedSimpArgs false
theorem fails_ {P : Program} {ops : Array Oper} {Q : Exit → Act → World → Prop} {oi : Oper} {N : Option Tmp} {a : Act} {w : World} {K : Act → World → Prop} {f : FuncId} {fn : Func} {xs : Array Operand} {ts : Array TypeId} (hf : P.funcs[f]? = some fn) (hname : (fn.name == "runtime.NumGoroutine") = false) (hb : fn.body.isSome = true) (args : Array Value)
  (hw : Region.wanted oi (yielded ops a.tmps) = true) (hN : oi.dst = N) (hop : oi.op = .call { callee := .value (.func f), args := xs, argTypes := ts }) (hargs : xs.map a.eval = args)
  (h : Calls P f args w fun e w' => ∃ chain, e = .panicked chain ∧ Q (.panic chain) a w') : if Region.wanted oi (yielded ops a.tmps) = true then Oper.wp P oi a w K Q else K (a.put N undef) w := by
 have he := enters_ hf hname hb args w
 have hrun : (execOp a.eval oi).run P w = .ok (.enter f args) w := by
  unfold execOp
  simp [hop, resolve, Deferred.ofValue, invoke, Act.eval, hargs, he]
 rw [if_pos hw]
 unfold Oper.wp
 rw [hrun, Oper.upon_enter]
 refine h.mono fun e w'' hh => ?_
 obtain ⟨v, rfl, hk⟩ := hh
 exact hk
structure Inv (st : RS) : Prop where
 n0 : 0 < st.secs.length
 n4 : st.secs.length ≤ 4
 fl : st.from_.length = st.secs.length
 it : st.items ≤ 100
 il : (lastSec st.secs).f0.length ≤ st.items
 sc0 : 0 ≤ (lastSec st.secs).f2
 sc1 : (lastSec st.secs).f2 ≤ st.at_
 pl : st.at_ ≤ st.s.size + 1
 sz : st.s.size ≤ 1000
def Res (R : Nat) (w : World) (res : Except (Int × Int) RS) (e : Ending) (w' : World) : Prop :=
 match res with
 | .error x => e = fault x.1 x.2 ∧ Below R w w'
 | .ok st' => e = .returned (.tuple #[]) ∧ (∃ vS vF, Rd R w' st' vS vF) ∧ Below R w w'
def putS (kind : Int) (text : ByteArray) (st : RS) : RS := { st with items := st.items + 1, secs := addItem st.secs ⟨kind, text⟩, open_ := isOpen kind ((lastSec st.secs).f0 ++ [⟨kind, text⟩]) }
def putM (kind : Int) (text : ByteArray) (pl : Int) (st : RS) : Except (Int × Int) RS := if st.items = 100 then .error (5, pl) else .ok (putS kind text st)
theorem lastSec_add {l : List S62} (h : 0 < l.length) (x : S88) : lastSec (addItem l x) = { lastSec l with f0 := (lastSec l).f0 ++ [x] } := by
 unfold lastSec
 rw [addItem_len]
 exact addItem_last h x
theorem Inv.put {st : RS} (h : Inv st) (hi : ¬ st.items = 100) (kind : Int) (text : ByteArray) : Inv (putS kind text st) := by
 have hl := lastSec_add h.n0 ⟨kind, text⟩
 refine ⟨?_, ?_, ?_, ?_, ?_, ?_, ?_, h.pl, h.sz⟩
 ·show 0 < (addItem st.secs _).length; rw [addItem_len]; exact h.n0
 ·show (addItem st.secs _).length ≤ 4; rw [addItem_len]; exact h.n4
 ·show st.from_.length = (addItem st.secs _).length; rw [addItem_len]; exact h.fl
 ·show st.items + 1 ≤ 100; have := h.it; omega
 ·show (lastSec (addItem st.secs ⟨kind, text⟩)).f0.length ≤ st.items + 1; rw [hl]; have := h.il; simp; omega
 ·show 0 ≤ (lastSec (addItem st.secs ⟨kind, text⟩)).f2; rw [hl]; exact h.sc0
 ·show (lastSec (addItem st.secs ⟨kind, text⟩)).f2 ≤ st.at_; rw [hl]; exact h.sc1
theorem Inv.at_ {st : RS} (h : Inv st) (p : Nat) (h1 : st.at_ ≤ p) (h2 : p ≤ st.s.size + 1) : Inv { st with at_ := p } :=
 ⟨h.n0, h.n4, h.fl, h.it, h.il, h.sc0, Int.le_trans h.sc1 (by exact_mod_cast h1), h2, h.sz⟩
theorem Inv.shut {st : RS} (h : Inv st) : Inv { st with open_ := false } := ⟨h.n0, h.n4, h.fl, h.it, h.il, h.sc0, h.sc1, h.pl, h.sz⟩
theorem put_walk (R : Nat) (st : RS) (vS vF : Value) (kind pl : Int) (text : ByteArray) (w : World) (hI : Inv st) (h : Rd R w st vS vF) :
  Calls Tryd.prog 96 #[.pointer (some ⟨R, 0, none⟩), .int .i64 kind, .string text, .int .i64 pl] w (Res R w (putM kind text pl st)) := by
 unfold putM
 by_cases h1 : st.items = 100
 ·rw [if_pos h1]
  exact (put_panic R st vS vF kind pl text w h1 h).mono fun e w' hh => ⟨hh.1, by rw [← hh.2]; exact Below.refl _ _⟩
 ·rw [if_neg h1]
  exact put_ok R st vS vF kind pl text w (by have := hI.it; omega) hI.n0 hI.n4 (by have := hI.il; have := hI.it; omega) h
theorem put_err {R : Nat} {st : RS} {vS vF : Value} {kind pl : Int} {text : ByteArray} {w : World} {x : Int × Int} (hx : putM kind text pl st = .error x) (hI : Inv st) (h : Rd R w st vS vF) :
  Calls Tryd.prog 96 #[.pointer (some ⟨R, 0, none⟩), .int .i64 kind, .string text, .int .i64 pl] w fun e w' => e = fault x.1 x.2 ∧ Below R w w' := by
 have h1 := put_walk R st vS vF kind pl text w hI h
 rw [hx] at h1
 exact h1
theorem put_fine {R : Nat} {st st' : RS} {vS vF : Value} {kind pl : Int} {text : ByteArray} {w : World} (hx : putM kind text pl st = .ok st') (hI : Inv st) (h : Rd R w st vS vF) :
  Calls Tryd.prog 96 #[.pointer (some ⟨R, 0, none⟩), .int .i64 kind, .string text, .int .i64 pl] w fun e w' => e = .returned (.tuple #[]) ∧ (∃ vS vF, Rd R w' st' vS vF) ∧ Below R w w' := by
 have h1 := put_walk R st vS vF kind pl text w hI h
 rw [hx] at h1
 exact h1
def singleK (c : Int) : Int := if c = 46 then 3 else if c = 37 then 4 else if c = 47 then 6 else if c = 64 then 8 else if c = 36 then 9 else 0
theorem single_f (c : Int) : pattern_single.f c = some (singleK c) := by
 unfold pattern_single.f singleK
 repeat' split
 all_goals rfl
def bareB (c : UInt8) : Bool := decide (0 ≤ Lib.indexByte [32, 45, 43, 40, 41, 58] c)
def genB (s : ByteArray) (pl : Nat) : Bool := Lib.hasPrefix (s.extract pl s.size).data.toList [71, 101, 110, 101, 114, 97, 108]
def pmB (c : UInt8) : Bool := decide (0 ≤ Lib.indexByte [43, 45] c)
def expB (c : UInt8) (s : ByteArray) (p : Nat) : Bool := (c == 69 || c == 101) && if h : p < s.size then pmB (s[p]'h) else false
def otherM (c : UInt8) (pl : Nat) (st : RS) : Except (Int × Int) RS :=
 if bareB c = true then putM 1 (st.s.extract pl st.at_) pl st
 else if 0 < singleK c.toNat then putM (singleK c.toNat) ⟨#[]⟩ pl st
 else if genB st.s pl = true then putM 7 ⟨#[]⟩ pl { st with at_ := pl + 7 }
 else if expB c st.s st.at_ = true then putM 5 (st.s.extract (pl + 1) (st.at_ + 1)) pl { st with at_ := st.at_ + 1 }
 else .error (12, pl)
theorem below_drew' {R : Nat} {w w2 : World} (h : Below R w.drew w2) : Below R w w2 := (below_drew (Below.refl R w)).trans h
theorem u8_back (c : UInt8) : ((c.toNat : Int)).toNat.toUInt8 = c := by simp
set_option maxRecDepth 100000 in
set_option maxHeartbeats 4000000 in
theorem other_bare (R : Nat) (st : RS) (vS vF : Value) (c : UInt8) (pl : Nat) (w : World) (hI : Inv st) (hpl : st.at_ ≤ st.s.size) (hp : pl ≤ st.at_) (hb : bareB c = true) (h : Rd R w st vS vF) :
  Calls Tryd.prog 99 #[.pointer (some ⟨R, 0, none⟩), .int .u8 c.toNat, .int .i64 pl] w (Res R w (putM 1 (st.s.extract pl st.at_) pl st)) := by
 have hc0 : w.cell? ⟨R, 0, none⟩ = some (.string st.s) := (blk_cell h.blk 0).trans rfl
 have hc1 : w.cell? ⟨R, 1, none⟩ = some (.int .i64 st.at_) := (blk_cell h.blk 1).trans rfl
 have hbb : decide (0 ≤ Lib.indexByte [32, 45, 43, 40, 41, 58] c) = true := hb
 have HH := Aside0.mk h
 have HI := Aside0.mk hI
 clear h hb hI
 have hi0 : (0 : Int) ≤ (pl : Int) := by omega
 have hi1 : (pl : Int) ≤ (st.at_ : Int) := by omega
 have hi2 : (st.at_ : Int) ≤ (st.s.size : Int) := by omega
 rcases hres : putM 1 (st.s.extract pl st.at_) pl st with x | st'
 ·have HP := Aside0.mk (put_err hres HI.out (Rd.drew HH.out))
  clear hres
  go_enter Tryd.func99, Tryd.ntmps99
  go_wp2_with (fail)
  (with_reducible refine (Tryd.strings_IndexByte _ _ _).mono ?_)
  rintro e w1 ⟨rfl, rfl⟩
  rw [u8_back]
  go_wp2
  refine start_ (n := 13) (S := fun w' => w'.cell? ⟨R, 0, none⟩ = some (.string st.s) ∧ w'.cell? ⟨R, 1, none⟩ = some (.int .i64 st.at_)) (ds := []) (bl 13 0) (by kernel_rfl) rfl (by kernel_rfl) ⟨hc0, hc1⟩ (fun hHeld => ?_)
  refine pure_ (i := 0) (N := some 11) (v := ?_) (a' := ?_) (bl 13 1) rfl rfl (by kernel_rfl) (fun _ _ _ h => h) (Or.inl ⟨by rfl, ?_⟩) ?_ ?_
  rotate_left
  ·exact Z4
  rotate_left
  ·exact Z0
  refine pure_ (i := 1) (N := some 12) (v := ?_) (a' := ?_) (bl 13 3) rfl rfl (by kernel_rfl) (fun _ _ _ h => h) (Or.inl ⟨by rfl, ?_⟩) ?_ ?_
  rotate_left
  ·exact Z4
  rotate_left
  ·exact Z0
  refine pure_ (i := 2) (N := some 13) (v := ?_) (a' := ?_) (bl 13 7) rfl rfl (by kernel_rfl) (fun _ _ _ h => h) (Or.inl ⟨by rfl, ?_⟩) ?_ ?_
  rotate_left
  ·exact Z4
  rotate_left
  ·exact Z0
  refine pure_ (i := 3) (N := some 14) (v := ?_) (a' := ?_) (bl 13 15) rfl rfl (by kernel_rfl) (fun _ _ _ h => h) (Or.inl ⟨by rfl, ?_⟩) ?_ ?_
  rotate_left
  ·exact Z4
  rotate_left
  ·exact Z0
  refine pure_ (i := 5) (N := some 16) (v := ?_) (a' := ?_) (bl 13 47) rfl rfl (by kernel_rfl) (fun _ _ _ h => h) (Or.inl ⟨by rfl, ?_⟩) ?_ ?_
  rotate_left
  ·exact Z4
  rotate_left
  ·exact Z0
  refine pure_ (i := 6) (N := some 17) (v := ?_) (a' := ?_) (bl 13 111) rfl rfl (by kernel_rfl) (fun _ _ _ h => h) (Or.inl ⟨by rfl, ?_⟩) ?_ ?_
  rotate_left
  ·exact Z4
  rotate_left
  ·exact Z0
  refine pure_ (i := 7) (N := some 18) (v := ?_) (a' := ?_) (bl 13 239) rfl rfl (by kernel_rfl) (fun _ _ _ h => h) (Or.inl ⟨by rfl, ?_⟩) ?_ ?_
  rotate_left
  ·exact Z4
  rotate_left
  ·exact Z0
  refine pure_ (i := 8) (N := some 19) (v := ?_) (a' := ?_) (bl 13 495) rfl rfl (by kernel_rfl) (fun _ _ _ h => h) (Or.inl ⟨by rfl, ?_⟩) ?_ ?_
  rotate_left
  ·exact Z4
  rotate_left
  ·exact Z0
  refine pure_ (i := 11) (N := some 22) (v := ?_) (a' := ?_) (bl 13 2543) rfl rfl (by kernel_rfl) (fun _ _ _ h => h) (Or.inl ⟨by rfl, ?_⟩) ?_ ?_
  rotate_left
  ·exact Z4
  rotate_left
  ·exact Z0
  refine take_ (i := 4) (N := some 15) (v := ?_) (a' := ?_) (bl 13 2559) rfl rfl (by kernel_rfl) (fun _ _ _ h => h) (Or.inl ⟨by rfl, ?_⟩) hHeld ?_ ?_
  rotate_left
  ·exact Z8
  rotate_left
  ·exact Z0
  refine take_ (i := 9) (N := some 20) (v := ?_) (a' := ?_) (bl 13 3071) rfl rfl (by kernel_rfl) (fun _ _ _ h => h) (Or.inl ⟨by rfl, ?_⟩) hHeld ?_ ?_
  rotate_left
  ·exact Z8
  rotate_left
  ·exact Z0
  refine pure_ (i := 10) (N := some 21) (v := ?_) (a' := ?_) (bl 13 4095) rfl rfl (by kernel_rfl) (fun _ _ _ h => h) (Or.inl ⟨by rfl, ?_⟩) ?_ ?_
  rotate_left
  ·exact Z4
  rotate_left
  ·exact Z0
  refine one_ (i := 12) (N := some 23) (bl 13 8191) rfl rfl (by kernel_rfl) (by decide) (fun K hK => ?_)
  refine fails_ Tryd.func96 (by kernel_rfl) rfl #[.pointer (some ⟨R, 0, none⟩), .int .i64 1, .string (st.s.extract pl st.at_), .int .i64 pl] (by rfl) rfl rfl Z23 ?_
  with_reducible refine (HP.out).mono ?_
  rintro e w2 ⟨rfl, hb2⟩
  refine ⟨_, rfl, ?_⟩
  exact ⟨rfl, And.intro rfl (below_drew' hb2)⟩
 ·have HP := Aside0.mk (put_fine hres HI.out (Rd.drew HH.out))
  clear hres
  go_enter Tryd.func99, Tryd.ntmps99
  go_wp2_with (fail)
  (with_reducible refine (Tryd.strings_IndexByte _ _ _).mono ?_)
  rintro e w1 ⟨rfl, rfl⟩
  rw [u8_back]
  go_wp2
  refine start_ (n := 13) (S := fun w' => w'.cell? ⟨R, 0, none⟩ = some (.string st.s) ∧ w'.cell? ⟨R, 1, none⟩ = some (.int .i64 st.at_)) (ds := [12]) (bl 13 0) (by kernel_rfl) rfl (by kernel_rfl) ⟨hc0, hc1⟩ (fun hHeld => ?_)
  refine pure_ (i := 0) (N := some 11) (v := ?_) (a' := ?_) (bl 13 1) rfl rfl (by kernel_rfl) (fun _ _ _ h => h) (Or.inl ⟨by rfl, ?_⟩) ?_ ?_
  rotate_left
  ·exact Z4
  rotate_left
  ·exact Z0
  refine pure_ (i := 1) (N := some 12) (v := ?_) (a' := ?_) (bl 13 3) rfl rfl (by kernel_rfl) (fun _ _ _ h => h) (Or.inl ⟨by rfl, ?_⟩) ?_ ?_
  rotate_left
  ·exact Z4
  rotate_left
  ·exact Z0
  refine pure_ (i := 2) (N := some 13) (v := ?_) (a' := ?_) (bl 13 7) rfl rfl (by kernel_rfl) (fun _ _ _ h => h) (Or.inl ⟨by rfl, ?_⟩) ?_ ?_
  rotate_left
  ·exact Z4
  rotate_left
  ·exact Z0
  refine pure_ (i := 3) (N := some 14) (v := ?_) (a' := ?_) (bl 13 15) rfl rfl (by kernel_rfl) (fun _ _ _ h => h) (Or.inl ⟨by rfl, ?_⟩) ?_ ?_
  rotate_left
  ·exact Z4
  rotate_left
  ·exact Z0
  refine pure_ (i := 5) (N := some 16) (v := ?_) (a' := ?_) (bl 13 47) rfl rfl (by kernel_rfl) (fun _ _ _ h => h) (Or.inl ⟨by rfl, ?_⟩) ?_ ?_
  rotate_left
  ·exact Z4
  rotate_left
  ·exact Z0
  refine pure_ (i := 6) (N := some 17) (v := ?_) (a' := ?_) (bl 13 111) rfl rfl (by kernel_rfl) (fun _ _ _ h => h) (Or.inl ⟨by rfl, ?_⟩) ?_ ?_
  rotate_left
  ·exact Z4
  rotate_left
  ·exact Z0
  refine pure_ (i := 7) (N := some 18) (v := ?_) (a' := ?_) (bl 13 239) rfl rfl (by kernel_rfl) (fun _ _ _ h => h) (Or.inl ⟨by rfl, ?_⟩) ?_ ?_
  rotate_left
  ·exact Z4
  rotate_left
  ·exact Z0
  refine pure_ (i := 8) (N := some 19) (v := ?_) (a' := ?_) (bl 13 495) rfl rfl (by kernel_rfl) (fun _ _ _ h => h) (Or.inl ⟨by rfl, ?_⟩) ?_ ?_
  rotate_left
  ·exact Z4
  rotate_left
  ·exact Z0
  refine pure_ (i := 11) (N := some 22) (v := ?_) (a' := ?_) (bl 13 2543) rfl rfl (by kernel_rfl) (fun _ _ _ h => h) (Or.inl ⟨by rfl, ?_⟩) ?_ ?_
  rotate_left
  ·exact Z4
  rotate_left
  ·exact Z0
  refine take_ (i := 4) (N := some 15) (v := ?_) (a' := ?_) (bl 13 2559) rfl rfl (by kernel_rfl) (fun _ _ _ h => h) (Or.inl ⟨by rfl, ?_⟩) hHeld ?_ ?_
  rotate_left
  ·exact Z8
  rotate_left
  ·exact Z0
  refine take_ (i := 9) (N := some 20) (v := ?_) (a' := ?_) (bl 13 3071) rfl rfl (by kernel_rfl) (fun _ _ _ h => h) (Or.inl ⟨by rfl, ?_⟩) hHeld ?_ ?_
  rotate_left
  ·exact Z8
  rotate_left
  ·exact Z0
  refine pure_ (i := 10) (N := some 21) (v := ?_) (a' := ?_) (bl 13 4095) rfl rfl (by kernel_rfl) (fun _ _ _ h => h) (Or.inl ⟨by rfl, ?_⟩) ?_ ?_
  rotate_left
  ·exact Z4
  rotate_left
  ·exact Z0
  refine last_ (i := 12) (N := some 23) (bl 13 8191) rfl rfl (by kernel_rfl) (by decide) (fun K hK => ?_)
  refine goes_ Tryd.func96 (by kernel_rfl) rfl #[.pointer (some ⟨R, 0, none⟩), .int .i64 1, .string (st.s.extract pl st.at_), .int .i64 pl] (by rfl) rfl rfl Z23 ?_
  with_reducible refine (HP.out).mono ?_
  rintro e w2 ⟨rfl, hr2, hb2⟩
  refine ⟨_, rfl, ?_⟩
  refine hK.out _ _ ?_
  clear hK K
  refine norm_ (a' := ?_) ?_ ?_
  rotate_left
  ·show Act.put _ (some 23) _ = _
   simp only [Act.put, sA_, s0_, s1_, i64_w, i32_w]
   rfl
  refine done_ (by kernel_rfl) ?_
  go_wp2
  go_end0
  exact ⟨rfl, hr2, below_drew' hb2⟩
theorem u8_eq (c : UInt8) (k : Nat) (hk : k < 256) : ((c.toNat : Int) == (k : Int)) = (c == UInt8.ofNat k) := by
 rw [Bool.eq_iff_iff, beq_iff_eq, beq_iff_eq, ← UInt8.toNat_inj]
 have : (UInt8.ofNat k).toNat = k := by simp [UInt8.toNat_ofNat']; omega
 rw [this]
 omega
set_option maxRecDepth 100000 in
set_option maxHeartbeats 4000000 in
theorem other_single (R : Nat) (st : RS) (vS vF : Value) (c : UInt8) (pl : Nat) (w : World) (hI : Inv st) (hpl : st.at_ ≤ st.s.size) (hp : pl ≤ st.at_) (hb : bareB c = false) (hk : 0 < singleK c.toNat) (h : Rd R w st vS vF) :
  Calls Tryd.prog 99 #[.pointer (some ⟨R, 0, none⟩), .int .u8 c.toNat, .int .i64 pl] w (Res R w (putM (singleK c.toNat) ⟨#[]⟩ pl st)) := by
 have hbb : decide (0 ≤ Lib.indexByte [32, 45, 43, 40, 41, 58] c) = false := hb
 have hkk : decide (0 < singleK c.toNat) = true := decide_eq_true hk
 have HH := Aside0.mk h
 have HI := Aside0.mk hI
 have HS := Aside0.mk (pattern_single.calls c.toNat _ w (single_f _))
 clear h hb hI hk
 generalize singleK c.toNat = K at *
 rcases hres : putM K ⟨#[]⟩ pl st with x | st'
 ·have HP := Aside0.mk (fun W (hr : Rd R W st vS vF) => put_err hres HI.out hr)
  clear hres
  go_enter Tryd.func99, Tryd.ntmps99
  go_wp2_with (fail)
  (with_reducible refine (Tryd.strings_IndexByte _ _ _).mono ?_)
  rintro e w1 ⟨rfl, rfl⟩
  rw [u8_back]
  go_wp2_with (fail)
  (with_reducible refine HS.out.mono ?_)
  rintro e w2 ⟨rfl, hD⟩
  have HR2 := Aside0.mk (Rd.below HH.out hD.below)
  have HB2 := Aside0.mk (hD.below.mono (Nat.le_of_lt (blk_lt HH.out.blk)))
  go_wp2_with (fail)
  (with_reducible refine (HP.out _ HR2.out).mono ?_)
  rintro e w3 ⟨rfl, hb3⟩
  unfold fault
  go_wp2
  exact ⟨rfl, And.intro rfl (HB2.out.trans hb3)⟩
 ·have HP := Aside0.mk (fun W (hr : Rd R W st vS vF) => put_fine hres HI.out hr)
  clear hres
  go_enter Tryd.func99, Tryd.ntmps99
  go_wp2_with (fail)
  (with_reducible refine (Tryd.strings_IndexByte _ _ _).mono ?_)
  rintro e w1 ⟨rfl, rfl⟩
  rw [u8_back]
  go_wp2_with (fail)
  (with_reducible refine HS.out.mono ?_)
  rintro e w2 ⟨rfl, hD⟩
  have HR2 := Aside0.mk (Rd.below HH.out hD.below)
  have HB2 := Aside0.mk (hD.below.mono (Nat.le_of_lt (blk_lt HH.out.blk)))
  go_wp2_with (fail)
  (with_reducible refine (HP.out _ HR2.out).mono ?_)
  rintro e w3 ⟨rfl, hr3, hb3⟩
  go_wp2
  go_end0
  exact ⟨rfl, hr3, HB2.out.trans hb3⟩
end Go.Proofs.YtmbhjogohfcjgaaDoor.P
