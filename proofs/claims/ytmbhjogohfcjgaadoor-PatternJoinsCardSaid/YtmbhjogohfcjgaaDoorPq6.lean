/- The further ways of reader.other (written by wip/tools/genother.py). -/
import Derived.Test.YtmbhjogohfcjgaaDoorPq5
namespace Go.Proofs.YtmbhjogohfcjgaaDoor.P
open Go.RowKit Go.Proofs.YtmbhjogohfcjgaaDoorW.PrintWords Go.Proofs.YtmbhjogohfcjgaaDoorW.PrintLast Go.Proofs.YtmbhjogohfcjgaaDoorW.PrintMore
set_option linter.unusedVariables false
set_option linter.unusedSimpArgs false
theorem Rd.setAt {R : Nat} {w : World} {st : RS} {vS vF : Value} (h : Rd R w st vS vF) (v : Int) (p : Nat) (hv : v = (p : Int)) : Rd R (w.setCell ⟨R, 1, none⟩ (.int .i64 v)) { st with at_ := p } vS vF := by
 subst hv
 exact ⟨blk_set h.blk 1 (.int .i64 (p : Int)), Kd.S_set h.hS h.blk (by decide) 1 _, Kd.R_set h.hF h.blk (by decide) 1 _⟩
theorem Rd.c0 {R : Nat} {w : World} {st : RS} {vS vF : Value} (h : Rd R w st vS vF) : w.cell? ⟨R, 0, none⟩ = some (.string st.s) := (blk_cell h.blk 0).trans rfl
theorem Rd.c1 {R : Nat} {w : World} {st : RS} {vS vF : Value} (h : Rd R w st vS vF) : w.cell? ⟨R, 1, none⟩ = some (.int .i64 st.at_) := (blk_cell h.blk 1).trans rfl
theorem prefix_walk (s : ByteArray) (pl : Nat) (W : World) (b : Bool) (h : genB s pl = b) : Calls Tryd.prog 107 #[.string (s.extract pl s.size), .string ⟨#[71, 101, 110, 101, 114, 97, 108]⟩] W fun e w' => e = .returned (.bool b) ∧ w' = W := by
 have h1 := Tryd.strings_HasPrefix (s.extract pl s.size) ⟨#[71, 101, 110, 101, 114, 97, 108]⟩ W
 rw [show Lib.hasPrefix (s.extract pl s.size).data.toList (⟨#[71, 101, 110, 101, 114, 97, 108]⟩ : ByteArray).data.toList = b from h] at h1
 exact h1
theorem genB_le {s : ByteArray} {pl : Nat} (h : genB s pl = true) : pl + 7 ≤ s.size := by
 have h1 := (List.isPrefixOf_iff_prefix.mp (show List.isPrefixOf _ _ = true from h)).length_le
 simp only [List.length_cons, List.length_nil] at h1
 have h2 : (s.extract pl s.size).data.toList.length = (s.extract pl s.size).size := rfl
 rw [h2, ByteArray.size_extract] at h1
 omega
set_option maxRecDepth 100000 in
set_option maxHeartbeats 8000000 in
theorem other_general (R : Nat) (st : RS) (vS vF : Value) (c : UInt8) (pl : Nat) (w : World) (hI : Inv st) (hpl : st.at_ ≤ st.s.size) (hp : pl ≤ st.at_) (hb : bareB c = false) (hk : ¬ 0 < singleK c.toNat) (hg : genB st.s pl = true) (hsc : (lastSec st.secs).f2 ≤ pl) (h : Rd R w st vS vF) :
  Calls Tryd.prog 99 #[.pointer (some ⟨R, 0, none⟩), .int .u8 c.toNat, .int .i64 pl] w (Res R w (putM 7 ⟨#[]⟩ pl { st with at_ := pl + 7 })) := by
 have hbb : decide (0 ≤ Lib.indexByte [32, 45, 43, 40, 41, 58] c) = false := hb
 have hkk : decide (0 < singleK c.toNat) = false := decide_eq_false hk
 have HH := Aside0.mk h
 have HI := Aside0.mk hI
 have hsz := hI.sz
 have HS := Aside0.mk (pattern_single.calls c.toNat _ w (single_f _))
 have hi0 : (0 : Int) ≤ (pl : Int) := by omega
 have hi1 : (pl : Int) ≤ (st.s.size : Int) := by omega
 have hi2 : (0 : Int) ≤ (st.at_ : Int) := by omega
 have HPX := Aside0.mk (fun W => prefix_walk st.s pl W true hg)
 clear h hb hI hk
 generalize singleK c.toNat = K at *
 have hg7 := genB_le hg
 clear hg
 have HI3 := Aside0.mk ((⟨HI.out.n0, HI.out.n4, HI.out.fl, HI.out.it, HI.out.il, HI.out.sc0, show (lastSec st.secs).f2 ≤ ((pl + 7 : Nat) : Int) by omega, Nat.le_succ_of_le hg7, HI.out.sz⟩ : Inv { st with at_ := pl + 7 }))
 rcases hres : putM 7 ⟨#[]⟩ pl { st with at_ := pl + 7 } with x | st'
 ·have HP := Aside0.mk (fun W (hr : Rd R W { st with at_ := pl + 7 } vS vF) => put_err hres HI3.out hr)
  clear hres
  go_enter Tryd.func99, Tryd.ntmps99
  go_wp2_with (fail)
  (with_reducible refine (Tryd.strings_IndexByte _ _ _).mono ?_)
  rintro e w1 ⟨rfl, rfl⟩
  rw [u8_back]
  go_wp2_with (fail)
  (with_reducible refine HS.out.mono ?_)
  rintro e w2 ⟨rfl, hD⟩
  have HR2 := Aside0.mk (Rd.below HH.out hD.below)
  have HB2 := Aside0.mk (hD.below.mono (Nat.le_of_lt (blk_lt HH.out.blk)))
  have hc0 := HR2.out.c0
  have hc1 := HR2.out.c1
  have hf1 := blk_frozen HR2.out.blk 1
  clear hD
  go_wp2_with (fail)
  (with_reducible refine (HPX.out _).mono ?_)
  rintro e w3 ⟨rfl, rfl⟩
  have HR3 := Aside0.mk (HR2.out.setAt ((pl : Int) + 7) (pl + 7) (by omega))
  have HB3 := Aside0.mk (HB2.out.setCell (p := ⟨R, 1, none⟩) (Nat.le_refl R) (.int .i64 ((pl : Int) + 7)))
  go_wp2_with (fail)
  (with_reducible refine (HP.out _ HR3.out).mono ?_)
  rintro e w4 ⟨rfl, hb4⟩
  unfold fault
  go_wp2
  exact ⟨rfl, And.intro rfl (HB3.out.trans hb4)⟩
 ·have HP := Aside0.mk (fun W (hr : Rd R W { st with at_ := pl + 7 } vS vF) => put_fine hres HI3.out hr)
  clear hres
  go_enter Tryd.func99, Tryd.ntmps99
  go_wp2_with (fail)
  (with_reducible refine (Tryd.strings_IndexByte _ _ _).mono ?_)
  rintro e w1 ⟨rfl, rfl⟩
  rw [u8_back]
  go_wp2_with (fail)
  (with_reducible refine HS.out.mono ?_)
  rintro e w2 ⟨rfl, hD⟩
  have HR2 := Aside0.mk (Rd.below HH.out hD.below)
  have HB2 := Aside0.mk (hD.below.mono (Nat.le_of_lt (blk_lt HH.out.blk)))
  have hc0 := HR2.out.c0
  have hc1 := HR2.out.c1
  have hf1 := blk_frozen HR2.out.blk 1
  clear hD
  go_wp2_with (fail)
  (with_reducible refine (HPX.out _).mono ?_)
  rintro e w3 ⟨rfl, rfl⟩
  have HR3 := Aside0.mk (HR2.out.setAt ((pl : Int) + 7) (pl + 7) (by omega))
  have HB3 := Aside0.mk (HB2.out.setCell (p := ⟨R, 1, none⟩) (Nat.le_refl R) (.int .i64 ((pl : Int) + 7)))
  go_wp2_with (fail)
  (with_reducible refine (HP.out _ HR3.out).mono ?_)
  rintro e w4 ⟨rfl, hr4, hb4⟩
  go_wp2
  go_end0
  exact ⟨rfl, hr4, HB3.out.trans hb4⟩
set_option maxRecDepth 100000 in
set_option maxHeartbeats 8000000 in
theorem other_no_panic (R : Nat) (st : RS) (vS vF : Value) (c : UInt8) (pl : Nat) (w : World) (hI : Inv st) (hpl : st.at_ ≤ st.s.size) (hp : pl ≤ st.at_) (hb : bareB c = false) (hk : ¬ 0 < singleK c.toNat) (hg : genB st.s pl = false) (h69 : (c == UInt8.ofNat 69) = false) (h101 : (c == UInt8.ofNat 101) = false) (h : Rd R w st vS vF) :
  Calls Tryd.prog 99 #[.pointer (some ⟨R, 0, none⟩), .int .u8 c.toNat, .int .i64 pl] w (fun e w' => e = fault 12 pl ∧ Below R w w') := by
 have hbb : decide (0 ≤ Lib.indexByte [32, 45, 43, 40, 41, 58] c) = false := hb
 have hkk : decide (0 < singleK c.toNat) = false := decide_eq_false hk
 have HH := Aside0.mk h
 have HI := Aside0.mk hI
 have hsz := hI.sz
 have HS := Aside0.mk (pattern_single.calls c.toNat _ w (single_f _))
 have hi0 : (0 : Int) ≤ (pl : Int) := by omega
 have hi1 : (pl : Int) ≤ (st.s.size : Int) := by omega
 have hi2 : (0 : Int) ≤ (st.at_ : Int) := by omega
 have HPX := Aside0.mk (fun W => prefix_walk st.s pl W false hg)
 clear h hb hI hk
 generalize singleK c.toNat = K at *
 have hc69 : ((c.toNat : Int) == 69) = false := (u8_eq c 69 (by omega)).trans h69
 have hc101 : ((c.toNat : Int) == 101) = false := (u8_eq c 101 (by omega)).trans h101
 clear h69 h101
 clear hg
 have hpn : ∀ (t : TypeId) (v : Value) (w : World), (Instr.panic (.iface t v)).run Tryd.prog w = .halt (.panic (.iface t v)) w := fun _ _ _ => rfl
 go_enter Tryd.func99, Tryd.ntmps99
 go_wp2_with (fail)
 (with_reducible refine (Tryd.strings_IndexByte _ _ _).mono ?_)
 rintro e w1 ⟨rfl, rfl⟩
 rw [u8_back]
 go_wp2_with (fail)
 (with_reducible refine HS.out.mono ?_)
 rintro e w2 ⟨rfl, hD⟩
 have HR2 := Aside0.mk (Rd.below HH.out hD.below)
 have HB2 := Aside0.mk (hD.below.mono (Nat.le_of_lt (blk_lt HH.out.blk)))
 have hc0 := HR2.out.c0
 have hc1 := HR2.out.c1
 have hf1 := blk_frozen HR2.out.blk 1
 clear hD
 go_wp2_with (fail)
 (with_reducible refine (HPX.out _).mono ?_)
 rintro e w3 ⟨rfl, rfl⟩
 go_wp2_with (fail)
 refine start_ (n := 31) (S := fun w' => w'.cell? ⟨R, 0, none⟩ = some (.string st.s) ∧ w'.cell? ⟨R, 1, none⟩ = some (.int .i64 st.at_)) (ds := []) (bl 31 0) (by kernel_rfl) rfl (by kernel_rfl) ⟨hc0, hc1⟩ (fun hHeld => ?_)
 refine pure_ (i := 0) (N := some 48) (v := ?_) (a' := ?_) (bl 31 1) rfl rfl (by kernel_rfl) (fun _ _ _ h => h) (Or.inl ⟨by rfl, ?_⟩) ?_ ?_
 rotate_left
 ·exact Z4
 rotate_left
 ·exact Z0
 refine pure_ (i := 1) (N := some 49) (v := ?_) (a' := ?_) (bl 31 3) rfl rfl (by kernel_rfl) (fun _ _ _ h => h) (Or.inl ⟨by rfl, ?_⟩) ?_ ?_
 rotate_left
 ·exact Z4
 rotate_left
 ·exact Z0
 refine pure_ (i := 2) (N := some 50) (v := ?_) (a' := ?_) (bl 31 7) rfl rfl (by kernel_rfl) (fun _ _ _ h => h) (Or.inl ⟨by rfl, ?_⟩) ?_ ?_
 rotate_left
 ·exact Z4
 rotate_left
 ·exact Z0
 refine pure_ (i := 3) (N := some 51) (v := ?_) (a' := ?_) (bl 31 15) rfl rfl (by kernel_rfl) (fun _ _ _ h => h) (Or.inl ⟨by rfl, ?_⟩) ?_ ?_
 rotate_left
 ·exact Z4
 rotate_left
 ·exact Z0
 refine pure_ (i := 4) (N := some 52) (v := ?_) (a' := ?_) (bl 31 31) rfl rfl (by kernel_rfl) (fun _ _ _ h => h) (Or.inl ⟨by rfl, ?_⟩) ?_ ?_
 rotate_left
 ·exact Z4
 rotate_left
 ·exact Z0
 refine pure_ (i := 5) (N := some 53) (v := ?_) (a' := ?_) (bl 31 63) rfl rfl (by kernel_rfl) (fun _ _ _ h => h) (Or.inl ⟨by rfl, ?_⟩) ?_ ?_
 rotate_left
 ·exact Z4
 rotate_left
 ·exact Z0
 refine pure_ (i := 6) (N := some 54) (v := ?_) (a' := ?_) (bl 31 127) rfl rfl (by kernel_rfl) (fun _ _ _ h => h) (Or.inl ⟨by rfl, ?_⟩) ?_ ?_
 rotate_left
 ·exact Z4
 rotate_left
 ·exact Z0
 refine pure_ (i := 7) (N := some 55) (v := undef) (a' := ?_) (bl 31 255) rfl rfl (by kernel_rfl) (fun _ _ _ h => h) (Or.inr ⟨by rfl, rfl⟩) ?_ ?_
 rotate_left
 ·exact Z0
 refine pure_ (i := 8) (N := some 56) (v := undef) (a' := ?_) (bl 31 511) rfl rfl (by kernel_rfl) (fun _ _ _ h => h) (Or.inr ⟨by rfl, rfl⟩) ?_ ?_
 rotate_left
 ·exact Z0
 refine pure_ (i := 9) (N := some 57) (v := undef) (a' := ?_) (bl 31 1023) rfl rfl (by kernel_rfl) (fun _ _ _ h => h) (Or.inr ⟨by rfl, rfl⟩) ?_ ?_
 rotate_left
 ·exact Z0
 refine pure_ (i := 10) (N := some 58) (v := undef) (a' := ?_) (bl 31 2047) rfl rfl (by kernel_rfl) (fun _ _ _ h => h) (Or.inr ⟨by rfl, rfl⟩) ?_ ?_
 rotate_left
 ·exact Z0
 refine pure_ (i := 11) (N := some 59) (v := undef) (a' := ?_) (bl 31 4095) rfl rfl (by kernel_rfl) (fun _ _ _ h => h) (Or.inr ⟨by rfl, rfl⟩) ?_ ?_
 rotate_left
 ·exact Z0
 refine pure_ (i := 12) (N := some 60) (v := undef) (a' := ?_) (bl 31 8191) rfl rfl (by kernel_rfl) (fun _ _ _ h => h) (Or.inr ⟨by rfl, rfl⟩) ?_ ?_
 rotate_left
 ·exact Z0
 refine pure_ (i := 13) (N := some 61) (v := undef) (a' := ?_) (bl 31 16383) rfl rfl (by kernel_rfl) (fun _ _ _ h => h) (Or.inr ⟨by rfl, rfl⟩) ?_ ?_
 rotate_left
 ·exact Z0
 refine pure_ (i := 14) (N := some 62) (v := undef) (a' := ?_) (bl 31 32767) rfl rfl (by kernel_rfl) (fun _ _ _ h => h) (Or.inr ⟨by rfl, rfl⟩) ?_ ?_
 rotate_left
 ·exact Z0
 refine pure_ (i := 15) (N := some 63) (v := undef) (a' := ?_) (bl 31 65535) rfl rfl (by kernel_rfl) (fun _ _ _ h => h) (Or.inr ⟨by rfl, rfl⟩) ?_ ?_
 rotate_left
 ·exact Z0
 refine pure_ (i := 16) (N := some 64) (v := undef) (a' := ?_) (bl 31 131071) rfl rfl (by kernel_rfl) (fun _ _ _ h => h) (Or.inr ⟨by rfl, rfl⟩) ?_ ?_
 rotate_left
 ·exact Z0
 refine pure_ (i := 17) (N := some 65) (v := ?_) (a' := ?_) (bl 31 262143) rfl rfl (by kernel_rfl) (fun _ _ _ h => h) (Or.inl ⟨by rfl, ?_⟩) ?_ ?_
 rotate_left
 ·exact Z4
 rotate_left
 ·exact Z0
 refine pure_ (i := 18) (N := some 66) (v := ?_) (a' := ?_) (bl 31 524287) rfl rfl (by kernel_rfl) (fun _ _ _ h => h) (Or.inl ⟨by rfl, ?_⟩) ?_ ?_
 rotate_left
 ·exact Z4
 rotate_left
 ·exact Z0
 refine pure_ (i := 19) (N := some 67) (v := undef) (a' := ?_) (bl 31 1048575) rfl rfl (by kernel_rfl) (fun _ _ _ h => h) (Or.inr ⟨by rfl, rfl⟩) ?_ ?_
 rotate_left
 ·exact Z0
 refine pure_ (i := 20) (N := some 68) (v := undef) (a' := ?_) (bl 31 2097151) rfl rfl (by kernel_rfl) (fun _ _ _ h => h) (Or.inr ⟨by rfl, rfl⟩) ?_ ?_
 rotate_left
 ·exact Z0
 refine pure_ (i := 21) (N := some 69) (v := undef) (a' := ?_) (bl 31 4194303) rfl rfl (by kernel_rfl) (fun _ _ _ h => h) (Or.inr ⟨by rfl, rfl⟩) ?_ ?_
 rotate_left
 ·exact Z0
 refine pure_ (i := 22) (N := some 70) (v := undef) (a' := ?_) (bl 31 8388607) rfl rfl (by kernel_rfl) (fun _ _ _ h => h) (Or.inr ⟨by rfl, rfl⟩) ?_ ?_
 rotate_left
 ·exact Z0
 refine pure_ (i := 23) (N := some 71) (v := undef) (a' := ?_) (bl 31 16777215) rfl rfl (by kernel_rfl) (fun _ _ _ h => h) (Or.inr ⟨by rfl, rfl⟩) ?_ ?_
 rotate_left
 ·exact Z0
 refine pure_ (i := 24) (N := some 72) (v := undef) (a' := ?_) (bl 31 33554431) rfl rfl (by kernel_rfl) (fun _ _ _ h => h) (Or.inr ⟨by rfl, rfl⟩) ?_ ?_
 rotate_left
 ·exact Z0
 refine pure_ (i := 25) (N := some 73) (v := undef) (a' := ?_) (bl 31 67108863) rfl rfl (by kernel_rfl) (fun _ _ _ h => h) (Or.inr ⟨by rfl, rfl⟩) ?_ ?_
 rotate_left
 ·exact Z0
 refine pure_ (i := 26) (N := some 74) (v := undef) (a' := ?_) (bl 31 134217727) rfl rfl (by kernel_rfl) (fun _ _ _ h => h) (Or.inr ⟨by rfl, rfl⟩) ?_ ?_
 rotate_left
 ·exact Z0
 refine pure_ (i := 27) (N := some 75) (v := undef) (a' := ?_) (bl 31 268435455) rfl rfl (by kernel_rfl) (fun _ _ _ h => h) (Or.inr ⟨by rfl, rfl⟩) ?_ ?_
 rotate_left
 ·exact Z0
 refine pure_ (i := 28) (N := some 76) (v := undef) (a' := ?_) (bl 31 536870911) rfl rfl (by kernel_rfl) (fun _ _ _ h => h) (Or.inr ⟨by rfl, rfl⟩) ?_ ?_
 rotate_left
 ·exact Z0
 refine pure_ (i := 29) (N := some 77) (v := undef) (a' := ?_) (bl 31 1073741823) rfl rfl (by kernel_rfl) (fun _ _ _ h => h) (Or.inr ⟨by rfl, rfl⟩) ?_ ?_
 rotate_left
 ·exact Z0
 refine pure_ (i := 30) (N := some 78) (v := ?_) (a' := ?_) (bl 31 2147483647) rfl rfl (by kernel_rfl) (fun _ _ _ h => h) (Or.inl ⟨by rfl, ?_⟩) ?_ ?_
 rotate_left
 ·exact Z4
 rotate_left
 ·exact Z0
 refine done_ (by kernel_rfl) ?_
 clear hHeld
 go_wp2
 exact ⟨rfl, rfl, below_drew HB2.out⟩
set_option maxRecDepth 100000 in
set_option maxHeartbeats 8000000 in
theorem other_E_nolt (R : Nat) (st : RS) (vS vF : Value) (c : UInt8) (pl : Nat) (w : World) (hI : Inv st) (hpl : st.at_ ≤ st.s.size) (hp : pl ≤ st.at_) (hb : bareB c = false) (hk : ¬ 0 < singleK c.toNat) (hg : genB st.s pl = false) (h69 : (c == UInt8.ofNat 69) = true) (hlt : ¬ st.at_ < st.s.size) (h : Rd R w st vS vF) :
  Calls Tryd.prog 99 #[.pointer (some ⟨R, 0, none⟩), .int .u8 c.toNat, .int .i64 pl] w (fun e w' => e = fault 12 pl ∧ Below R w w') := by
 have hbb : decide (0 ≤ Lib.indexByte [32, 45, 43, 40, 41, 58] c) = false := hb
 have hkk : decide (0 < singleK c.toNat) = false := decide_eq_false hk
 have HH := Aside0.mk h
 have HI := Aside0.mk hI
 have hsz := hI.sz
 have HS := Aside0.mk (pattern_single.calls c.toNat _ w (single_f _))
 have hi0 : (0 : Int) ≤ (pl : Int) := by omega
 have hi1 : (pl : Int) ≤ (st.s.size : Int) := by omega
 have hi2 : (0 : Int) ≤ (st.at_ : Int) := by omega
 have HPX := Aside0.mk (fun W => prefix_walk st.s pl W false hg)
 clear h hb hI hk
 generalize singleK c.toNat = K at *
 have hc69 : ((c.toNat : Int) == 69) = true := (u8_eq c 69 (by omega)).trans h69
 clear h69
 clear hg
 have hltb : decide ((st.at_ : Int) < (st.s.size : Int)) = false := decide_eq_false (by omega)
 have hpn : ∀ (t : TypeId) (v : Value) (w : World), (Instr.panic (.iface t v)).run Tryd.prog w = .halt (.panic (.iface t v)) w := fun _ _ _ => rfl
 go_enter Tryd.func99, Tryd.ntmps99
 go_wp2_with (fail)
 (with_reducible refine (Tryd.strings_IndexByte _ _ _).mono ?_)
 rintro e w1 ⟨rfl, rfl⟩
 rw [u8_back]
 go_wp2_with (fail)
 (with_reducible refine HS.out.mono ?_)
 rintro e w2 ⟨rfl, hD⟩
 have HR2 := Aside0.mk (Rd.below HH.out hD.below)
 have HB2 := Aside0.mk (hD.below.mono (Nat.le_of_lt (blk_lt HH.out.blk)))
 have hc0 := HR2.out.c0
 have hc1 := HR2.out.c1
 have hf1 := blk_frozen HR2.out.blk 1
 clear hD
 go_wp2_with (fail)
 (with_reducible refine (HPX.out _).mono ?_)
 rintro e w3 ⟨rfl, rfl⟩
 go_wp2_with (fail)
 refine start_ (n := 31) (S := fun w' => w'.cell? ⟨R, 0, none⟩ = some (.string st.s) ∧ w'.cell? ⟨R, 1, none⟩ = some (.int .i64 st.at_)) (ds := []) (bl 31 0) (by kernel_rfl) rfl (by kernel_rfl) ⟨hc0, hc1⟩ (fun hHeld => ?_)
 refine pure_ (i := 0) (N := some 48) (v := ?_) (a' := ?_) (bl 31 1) rfl rfl (by kernel_rfl) (fun _ _ _ h => h) (Or.inl ⟨by rfl, ?_⟩) ?_ ?_
 rotate_left
 ·exact Z4
 rotate_left
 ·exact Z0
 refine pure_ (i := 1) (N := some 49) (v := ?_) (a' := ?_) (bl 31 3) rfl rfl (by kernel_rfl) (fun _ _ _ h => h) (Or.inl ⟨by rfl, ?_⟩) ?_ ?_
 rotate_left
 ·exact Z4
 rotate_left
 ·exact Z0
 refine pure_ (i := 2) (N := some 50) (v := ?_) (a' := ?_) (bl 31 7) rfl rfl (by kernel_rfl) (fun _ _ _ h => h) (Or.inl ⟨by rfl, ?_⟩) ?_ ?_
 rotate_left
 ·exact Z4
 rotate_left
 ·exact Z0
 refine pure_ (i := 3) (N := some 51) (v := undef) (a' := ?_) (bl 31 15) rfl rfl (by kernel_rfl) (fun _ _ _ h => h) (Or.inr ⟨by rfl, rfl⟩) ?_ ?_
 rotate_left
 ·exact Z0
 refine pure_ (i := 4) (N := some 52) (v := undef) (a' := ?_) (bl 31 31) rfl rfl (by kernel_rfl) (fun _ _ _ h => h) (Or.inr ⟨by rfl, rfl⟩) ?_ ?_
 rotate_left
 ·exact Z0
 refine pure_ (i := 5) (N := some 53) (v := ?_) (a' := ?_) (bl 31 63) rfl rfl (by kernel_rfl) (fun _ _ _ h => h) (Or.inl ⟨by rfl, ?_⟩) ?_ ?_
 rotate_left
 ·exact Z4
 rotate_left
 ·exact Z0
 refine pure_ (i := 6) (N := some 54) (v := ?_) (a' := ?_) (bl 31 127) rfl rfl (by kernel_rfl) (fun _ _ _ h => h) (Or.inl ⟨by rfl, ?_⟩) ?_ ?_
 rotate_left
 ·exact Z4
 rotate_left
 ·exact Z0
 refine pure_ (i := 7) (N := some 55) (v := ?_) (a' := ?_) (bl 31 255) rfl rfl (by kernel_rfl) (fun _ _ _ h => h) (Or.inl ⟨by rfl, ?_⟩) ?_ ?_
 rotate_left
 ·exact Z4
 rotate_left
 ·exact Z0
 refine pure_ (i := 8) (N := some 56) (v := ?_) (a' := ?_) (bl 31 511) rfl rfl (by kernel_rfl) (fun _ _ _ h => h) (Or.inl ⟨by rfl, ?_⟩) ?_ ?_
 rotate_left
 ·exact Z4
 rotate_left
 ·exact Z0
 refine pure_ (i := 9) (N := some 57) (v := ?_) (a' := ?_) (bl 31 1023) rfl rfl (by kernel_rfl) (fun _ _ _ h => h) (Or.inl ⟨by rfl, ?_⟩) ?_ ?_
 rotate_left
 ·exact Z4
 rotate_left
 ·exact Z0
 refine pure_ (i := 11) (N := some 59) (v := ?_) (a' := ?_) (bl 31 3071) rfl rfl (by kernel_rfl) (fun _ _ _ h => h) (Or.inl ⟨by rfl, ?_⟩) ?_ ?_
 rotate_left
 ·exact Z4
 rotate_left
 ·exact Z0
 refine pure_ (i := 12) (N := some 60) (v := ?_) (a' := ?_) (bl 31 7167) rfl rfl (by kernel_rfl) (fun _ _ _ h => h) (Or.inl ⟨by rfl, ?_⟩) ?_ ?_
 rotate_left
 ·exact Z4
 rotate_left
 ·exact Z0
 refine pure_ (i := 13) (N := some 61) (v := ?_) (a' := ?_) (bl 31 15359) rfl rfl (by kernel_rfl) (fun _ _ _ h => h) (Or.inl ⟨by rfl, ?_⟩) ?_ ?_
 rotate_left
 ·exact Z4
 rotate_left
 ·exact Z0
 refine take_ (i := 10) (N := some 58) (v := ?_) (a' := ?_) (bl 31 16383) rfl rfl (by kernel_rfl) (fun _ _ _ h => h) (Or.inl ⟨by rfl, ?_⟩) hHeld ?_ ?_
 rotate_left
 ·exact Z8
 rotate_left
 ·exact Z0
 refine take_ (i := 14) (N := some 62) (v := ?_) (a' := ?_) (bl 31 32767) rfl rfl (by kernel_rfl) (fun _ _ _ h => h) (Or.inl ⟨by rfl, ?_⟩) hHeld ?_ ?_
 rotate_left
 ·exact Z8
 rotate_left
 ·exact Z0
 refine pure_ (i := 15) (N := some 63) (v := ?_) (a' := ?_) (bl 31 65535) rfl rfl (by kernel_rfl) (fun _ _ _ h => h) (Or.inl ⟨by rfl, ?_⟩) ?_ ?_
 rotate_left
 ·exact Z4
 rotate_left
 ·exact Z0
 refine pure_ (i := 16) (N := some 64) (v := ?_) (a' := ?_) (bl 31 131071) rfl rfl (by kernel_rfl) (fun _ _ _ h => h) (Or.inl ⟨by rfl, ?_⟩) ?_ ?_
 rotate_left
 ·exact Z4
 rotate_left
 ·exact Z0
 refine pure_ (i := 17) (N := some 65) (v := ?_) (a' := ?_) (bl 31 262143) rfl rfl (by kernel_rfl) (fun _ _ _ h => h) (Or.inl ⟨by rfl, ?_⟩) ?_ ?_
 rotate_left
 ·exact Z4
 rotate_left
 ·exact Z0
 refine pure_ (i := 18) (N := some 66) (v := ?_) (a' := ?_) (bl 31 524287) rfl rfl (by kernel_rfl) (fun _ _ _ h => h) (Or.inl ⟨by rfl, ?_⟩) ?_ ?_
 rotate_left
 ·exact Z4
 rotate_left
 ·exact Z0
 refine pure_ (i := 19) (N := some 67) (v := undef) (a' := ?_) (bl 31 1048575) rfl rfl (by kernel_rfl) (fun _ _ _ h => h) (Or.inr ⟨by rfl, rfl⟩) ?_ ?_
 rotate_left
 ·exact Z0
 refine pure_ (i := 20) (N := some 68) (v := undef) (a' := ?_) (bl 31 2097151) rfl rfl (by kernel_rfl) (fun _ _ _ h => h) (Or.inr ⟨by rfl, rfl⟩) ?_ ?_
 rotate_left
 ·exact Z0
 refine pure_ (i := 21) (N := some 69) (v := undef) (a' := ?_) (bl 31 4194303) rfl rfl (by kernel_rfl) (fun _ _ _ h => h) (Or.inr ⟨by rfl, rfl⟩) ?_ ?_
 rotate_left
 ·exact Z0
 refine pure_ (i := 22) (N := some 70) (v := undef) (a' := ?_) (bl 31 8388607) rfl rfl (by kernel_rfl) (fun _ _ _ h => h) (Or.inr ⟨by rfl, rfl⟩) ?_ ?_
 rotate_left
 ·exact Z0
 refine pure_ (i := 23) (N := some 71) (v := undef) (a' := ?_) (bl 31 16777215) rfl rfl (by kernel_rfl) (fun _ _ _ h => h) (Or.inr ⟨by rfl, rfl⟩) ?_ ?_
 rotate_left
 ·exact Z0
 refine pure_ (i := 24) (N := some 72) (v := undef) (a' := ?_) (bl 31 33554431) rfl rfl (by kernel_rfl) (fun _ _ _ h => h) (Or.inr ⟨by rfl, rfl⟩) ?_ ?_
 rotate_left
 ·exact Z0
 refine pure_ (i := 25) (N := some 73) (v := undef) (a' := ?_) (bl 31 67108863) rfl rfl (by kernel_rfl) (fun _ _ _ h => h) (Or.inr ⟨by rfl, rfl⟩) ?_ ?_
 rotate_left
 ·exact Z0
 refine pure_ (i := 26) (N := some 74) (v := undef) (a' := ?_) (bl 31 134217727) rfl rfl (by kernel_rfl) (fun _ _ _ h => h) (Or.inr ⟨by rfl, rfl⟩) ?_ ?_
 rotate_left
 ·exact Z0
 refine pure_ (i := 27) (N := some 75) (v := undef) (a' := ?_) (bl 31 268435455) rfl rfl (by kernel_rfl) (fun _ _ _ h => h) (Or.inr ⟨by rfl, rfl⟩) ?_ ?_
 rotate_left
 ·exact Z0
 refine pure_ (i := 28) (N := some 76) (v := undef) (a' := ?_) (bl 31 536870911) rfl rfl (by kernel_rfl) (fun _ _ _ h => h) (Or.inr ⟨by rfl, rfl⟩) ?_ ?_
 rotate_left
 ·exact Z0
 refine pure_ (i := 29) (N := some 77) (v := undef) (a' := ?_) (bl 31 1073741823) rfl rfl (by kernel_rfl) (fun _ _ _ h => h) (Or.inr ⟨by rfl, rfl⟩) ?_ ?_
 rotate_left
 ·exact Z0
 refine pure_ (i := 30) (N := some 78) (v := ?_) (a' := ?_) (bl 31 2147483647) rfl rfl (by kernel_rfl) (fun _ _ _ h => h) (Or.inl ⟨by rfl, ?_⟩) ?_ ?_
 rotate_left
 ·exact Z4
 rotate_left
 ·exact Z0
 refine done_ (by kernel_rfl) ?_
 clear hHeld
 go_wp2
 exact ⟨rfl, rfl, below_drew HB2.out⟩
set_option maxRecDepth 100000 in
set_option maxHeartbeats 8000000 in
theorem other_E_nopm (R : Nat) (st : RS) (vS vF : Value) (c : UInt8) (pl : Nat) (w : World) (hI : Inv st) (hpl : st.at_ ≤ st.s.size) (hp : pl ≤ st.at_) (hb : bareB c = false) (hk : ¬ 0 < singleK c.toNat) (hg : genB st.s pl = false) (h69 : (c == UInt8.ofNat 69) = true) (hlt : st.at_ < st.s.size) (hpm : pmB (st.s[st.at_]'hlt) = false) (h : Rd R w st vS vF) :
  Calls Tryd.prog 99 #[.pointer (some ⟨R, 0, none⟩), .int .u8 c.toNat, .int .i64 pl] w (fun e w' => e = fault 12 pl ∧ Below R w w') := by
 have hbb : decide (0 ≤ Lib.indexByte [32, 45, 43, 40, 41, 58] c) = false := hb
 have hkk : decide (0 < singleK c.toNat) = false := decide_eq_false hk
 have HH := Aside0.mk h
 have HI := Aside0.mk hI
 have hsz := hI.sz
 have HS := Aside0.mk (pattern_single.calls c.toNat _ w (single_f _))
 have hi0 : (0 : Int) ≤ (pl : Int) := by omega
 have hi1 : (pl : Int) ≤ (st.s.size : Int) := by omega
 have hi2 : (0 : Int) ≤ (st.at_ : Int) := by omega
 have HPX := Aside0.mk (fun W => prefix_walk st.s pl W false hg)
 clear h hb hI hk
 generalize singleK c.toNat = K at *
 have hc69 : ((c.toNat : Int) == 69) = true := (u8_eq c 69 (by omega)).trans h69
 clear h69
 clear hg
 have hltb : decide ((st.at_ : Int) < (st.s.size : Int)) = true := decide_eq_true (by omega)
 have hltc : (st.at_ : Int) < (st.s.size : Int) := by omega
 have hdd : decide (0 ≤ Lib.indexByte [43, 45] (st.s[st.at_]'hlt)) = false := hpm
 clear hpm
 have hpn : ∀ (t : TypeId) (v : Value) (w : World), (Instr.panic (.iface t v)).run Tryd.prog w = .halt (.panic (.iface t v)) w := fun _ _ _ => rfl
 go_enter Tryd.func99, Tryd.ntmps99
 go_wp2_with (fail)
 (with_reducible refine (Tryd.strings_IndexByte _ _ _).mono ?_)
 rintro e w1 ⟨rfl, rfl⟩
 rw [u8_back]
 go_wp2_with (fail)
 (with_reducible refine HS.out.mono ?_)
 rintro e w2 ⟨rfl, hD⟩
 have HR2 := Aside0.mk (Rd.below HH.out hD.below)
 have HB2 := Aside0.mk (hD.below.mono (Nat.le_of_lt (blk_lt HH.out.blk)))
 have hc0 := HR2.out.c0
 have hc1 := HR2.out.c1
 have hf1 := blk_frozen HR2.out.blk 1
 clear hD
 go_wp2_with (fail)
 (with_reducible refine (HPX.out _).mono ?_)
 rintro e w3 ⟨rfl, rfl⟩
 go_wp2_with (fail)
 refine start_ (n := 31) (S := fun w' => w'.cell? ⟨R, 0, none⟩ = some (.string st.s) ∧ w'.cell? ⟨R, 1, none⟩ = some (.int .i64 st.at_)) (ds := []) (bl 31 0) (by kernel_rfl) rfl (by kernel_rfl) ⟨hc0, hc1⟩ (fun hHeld => ?_)
 refine pure_ (i := 0) (N := some 48) (v := ?_) (a' := ?_) (bl 31 1) rfl rfl (by kernel_rfl) (fun _ _ _ h => h) (Or.inl ⟨by rfl, ?_⟩) ?_ ?_
 rotate_left
 ·exact Z4
 rotate_left
 ·exact Z0
 refine pure_ (i := 1) (N := some 49) (v := ?_) (a' := ?_) (bl 31 3) rfl rfl (by kernel_rfl) (fun _ _ _ h => h) (Or.inl ⟨by rfl, ?_⟩) ?_ ?_
 rotate_left
 ·exact Z4
 rotate_left
 ·exact Z0
 refine pure_ (i := 2) (N := some 50) (v := ?_) (a' := ?_) (bl 31 7) rfl rfl (by kernel_rfl) (fun _ _ _ h => h) (Or.inl ⟨by rfl, ?_⟩) ?_ ?_
 rotate_left
 ·exact Z4
 rotate_left
 ·exact Z0
 refine pure_ (i := 3) (N := some 51) (v := undef) (a' := ?_) (bl 31 15) rfl rfl (by kernel_rfl) (fun _ _ _ h => h) (Or.inr ⟨by rfl, rfl⟩) ?_ ?_
 rotate_left
 ·exact Z0
 refine pure_ (i := 4) (N := some 52) (v := undef) (a' := ?_) (bl 31 31) rfl rfl (by kernel_rfl) (fun _ _ _ h => h) (Or.inr ⟨by rfl, rfl⟩) ?_ ?_
 rotate_left
 ·exact Z0
 refine pure_ (i := 5) (N := some 53) (v := ?_) (a' := ?_) (bl 31 63) rfl rfl (by kernel_rfl) (fun _ _ _ h => h) (Or.inl ⟨by rfl, ?_⟩) ?_ ?_
 rotate_left
 ·exact Z4
 rotate_left
 ·exact Z0
 refine pure_ (i := 6) (N := some 54) (v := ?_) (a' := ?_) (bl 31 127) rfl rfl (by kernel_rfl) (fun _ _ _ h => h) (Or.inl ⟨by rfl, ?_⟩) ?_ ?_
 rotate_left
 ·exact Z4
 rotate_left
 ·exact Z0
 refine pure_ (i := 7) (N := some 55) (v := ?_) (a' := ?_) (bl 31 255) rfl rfl (by kernel_rfl) (fun _ _ _ h => h) (Or.inl ⟨by rfl, ?_⟩) ?_ ?_
 rotate_left
 ·exact Z4
 rotate_left
 ·exact Z0
 refine pure_ (i := 8) (N := some 56) (v := ?_) (a' := ?_) (bl 31 511) rfl rfl (by kernel_rfl) (fun _ _ _ h => h) (Or.inl ⟨by rfl, ?_⟩) ?_ ?_
 rotate_left
 ·exact Z4
 rotate_left
 ·exact Z0
 refine pure_ (i := 9) (N := some 57) (v := ?_) (a' := ?_) (bl 31 1023) rfl rfl (by kernel_rfl) (fun _ _ _ h => h) (Or.inl ⟨by rfl, ?_⟩) ?_ ?_
 rotate_left
 ·exact Z4
 rotate_left
 ·exact Z0
 refine pure_ (i := 11) (N := some 59) (v := ?_) (a' := ?_) (bl 31 3071) rfl rfl (by kernel_rfl) (fun _ _ _ h => h) (Or.inl ⟨by rfl, ?_⟩) ?_ ?_
 rotate_left
 ·exact Z4
 rotate_left
 ·exact Z0
 refine pure_ (i := 12) (N := some 60) (v := ?_) (a' := ?_) (bl 31 7167) rfl rfl (by kernel_rfl) (fun _ _ _ h => h) (Or.inl ⟨by rfl, ?_⟩) ?_ ?_
 rotate_left
 ·exact Z4
 rotate_left
 ·exact Z0
 refine pure_ (i := 13) (N := some 61) (v := ?_) (a' := ?_) (bl 31 15359) rfl rfl (by kernel_rfl) (fun _ _ _ h => h) (Or.inl ⟨by rfl, ?_⟩) ?_ ?_
 rotate_left
 ·exact Z4
 rotate_left
 ·exact Z0
 refine take_ (i := 10) (N := some 58) (v := ?_) (a' := ?_) (bl 31 16383) rfl rfl (by kernel_rfl) (fun _ _ _ h => h) (Or.inl ⟨by rfl, ?_⟩) hHeld ?_ ?_
 rotate_left
 ·exact Z8
 rotate_left
 ·exact Z0
 refine take_ (i := 14) (N := some 62) (v := ?_) (a' := ?_) (bl 31 32767) rfl rfl (by kernel_rfl) (fun _ _ _ h => h) (Or.inl ⟨by rfl, ?_⟩) hHeld ?_ ?_
 rotate_left
 ·exact Z8
 rotate_left
 ·exact Z0
 refine pure_ (i := 15) (N := some 63) (v := ?_) (a' := ?_) (bl 31 65535) rfl rfl (by kernel_rfl) (fun _ _ _ h => h) (Or.inl ⟨by rfl, ?_⟩) ?_ ?_
 rotate_left
 ·exact Z4
 rotate_left
 ·exact Z0
 refine pure_ (i := 16) (N := some 64) (v := ?_) (a' := ?_) (bl 31 131071) rfl rfl (by kernel_rfl) (fun _ _ _ h => h) (Or.inl ⟨by rfl, ?_⟩) ?_ ?_
 rotate_left
 ·exact Z4
 rotate_left
 ·exact Z0
 refine pure_ (i := 17) (N := some 65) (v := ?_) (a' := ?_) (bl 31 262143) rfl rfl (by kernel_rfl) (fun _ _ _ h => h) (Or.inl ⟨by rfl, ?_⟩) ?_ ?_
 rotate_left
 ·exact Z4
 rotate_left
 ·exact Z0
 refine pure_ (i := 18) (N := some 66) (v := ?_) (a' := ?_) (bl 31 524287) rfl rfl (by kernel_rfl) (fun _ _ _ h => h) (Or.inl ⟨by rfl, ?_⟩) ?_ ?_
 rotate_left
 ·exact Z4
 rotate_left
 ·exact Z0
 refine pure_ (i := 19) (N := some 67) (v := ?_) (a' := ?_) (bl 31 1048575) rfl rfl (by kernel_rfl) (fun _ _ _ h => h) (Or.inl ⟨by rfl, ?_⟩) ?_ ?_
 rotate_left
 ·exact Z4
 rotate_left
 ·exact Z0
 refine pure_ (i := 20) (N := some 68) (v := ?_) (a' := ?_) (bl 31 2097151) rfl rfl (by kernel_rfl) (fun _ _ _ h => h) (Or.inl ⟨by rfl, ?_⟩) ?_ ?_
 rotate_left
 ·exact Z4
 rotate_left
 ·exact Z0
 refine pure_ (i := 21) (N := some 69) (v := ?_) (a' := ?_) (bl 31 4194303) rfl rfl (by kernel_rfl) (fun _ _ _ h => h) (Or.inl ⟨by rfl, ?_⟩) ?_ ?_
 rotate_left
 ·exact Z4
 rotate_left
 ·exact Z0
 refine pure_ (i := 23) (N := some 71) (v := ?_) (a' := ?_) (bl 31 12582911) rfl rfl (by kernel_rfl) (fun _ _ _ h => h) (Or.inl ⟨by rfl, ?_⟩) ?_ ?_
 rotate_left
 ·exact Z4
 rotate_left
 ·exact Z0
 refine pure_ (i := 24) (N := some 72) (v := ?_) (a' := ?_) (bl 31 29360127) rfl rfl (by kernel_rfl) (fun _ _ _ h => h) (Or.inl ⟨by rfl, ?_⟩) ?_ ?_
 rotate_left
 ·exact Z4
 rotate_left
 ·exact Z0
 refine pure_ (i := 25) (N := some 73) (v := ?_) (a' := ?_) (bl 31 62914559) rfl rfl (by kernel_rfl) (fun _ _ _ h => h) (Or.inl ⟨by rfl, ?_⟩) ?_ ?_
 rotate_left
 ·exact Z4
 rotate_left
 ·exact Z0
 refine take_ (i := 22) (N := some 70) (v := ?_) (a' := ?_) (bl 31 67108863) rfl rfl (by kernel_rfl) (fun _ _ _ h => h) (Or.inl ⟨by rfl, ?_⟩) hHeld ?_ ?_
 rotate_left
 ·exact Z8
 rotate_left
 ·exact Z0
 refine take_ (i := 26) (N := some 74) (v := ?_) (a' := ?_) (bl 31 134217727) rfl rfl (by kernel_rfl) (fun _ _ _ h => h) (Or.inl ⟨by rfl, ?_⟩) hHeld ?_ ?_
 rotate_left
 ·exact Z8
 rotate_left
 ·exact Z0
 refine take_ (i := 27) (N := some 75) (v := ?_) (a' := ?_) (bl 31 268435455) rfl rfl (by kernel_rfl) (fun _ _ _ h => h) (Or.inl ⟨by rfl, ?_⟩) hHeld ?_ ?_
 rotate_left
 ·exact Z8
 rotate_left
 ·exact Z0
 refine one_ (i := 28) (N := some 76) (bl 31 536870911) rfl rfl (by kernel_rfl) (by decide) (fun K hK => ?_)
 refine goes_ Tryd.func94 (by kernel_rfl) rfl #[.string ⟨#[43, 45]⟩, .int .u8 ((st.s[st.at_]'hlt).toNat : Int)] (by rfl) rfl rfl Z23 ?_
 with_reducible refine (Tryd.strings_IndexByte _ _ _).mono ?_
 rintro e w9 ⟨rfl, rfl⟩
 refine ⟨_, rfl, ?_⟩
 refine hK.out _ _ ⟨hHeld.1, hHeld.2⟩ (fun hHeld => ?_)
 clear hK K
 refine norm_ (a' := ?_) ?_ ?_
 rotate_left
 ·show Act.put _ (some 76) _ = _
  simp only [Act.put, sA_, s0_, s1_, i64_w, i32_w]
  rfl
 refine pure_ (i := 29) (N := some 77) (v := ?_) (a' := ?_) (bl 31 1073741823) rfl rfl (by kernel_rfl) (fun _ _ _ h => h) (Or.inl ⟨by rfl, ?_⟩) ?_ ?_
 rotate_left
 ·exact Z4
 rotate_left
 ·exact Z0
 refine pure_ (i := 30) (N := some 78) (v := ?_) (a' := ?_) (bl 31 2147483647) rfl rfl (by kernel_rfl) (fun _ _ _ h => h) (Or.inl ⟨by rfl, ?_⟩) ?_ ?_
 rotate_left
 ·exact Z4
 rotate_left
 ·exact Z0
 refine done_ (by kernel_rfl) ?_
 clear hHeld
 go_wp2
 exact ⟨rfl, rfl, below_drew HB2.out⟩
set_option maxRecDepth 100000 in
set_option maxHeartbeats 8000000 in
theorem other_E_exp (R : Nat) (st : RS) (vS vF : Value) (c : UInt8) (pl : Nat) (w : World) (hI : Inv st) (hpl : st.at_ ≤ st.s.size) (hp : pl ≤ st.at_) (hb : bareB c = false) (hk : ¬ 0 < singleK c.toNat) (hg : genB st.s pl = false) (h69 : (c == UInt8.ofNat 69) = true) (hlt : st.at_ < st.s.size) (hpm : pmB (st.s[st.at_]'hlt) = true) (h : Rd R w st vS vF) :
  Calls Tryd.prog 99 #[.pointer (some ⟨R, 0, none⟩), .int .u8 c.toNat, .int .i64 pl] w (Res R w (putM 5 (st.s.extract (pl + 1) (st.at_ + 1)) pl { st with at_ := st.at_ + 1 })) := by
 have hbb : decide (0 ≤ Lib.indexByte [32, 45, 43, 40, 41, 58] c) = false := hb
 have hkk : decide (0 < singleK c.toNat) = false := decide_eq_false hk
 have HH := Aside0.mk h
 have HI := Aside0.mk hI
 have hsz := hI.sz
 have HS := Aside0.mk (pattern_single.calls c.toNat _ w (single_f _))
 have hi0 : (0 : Int) ≤ (pl : Int) := by omega
 have hi1 : (pl : Int) ≤ (st.s.size : Int) := by omega
 have hi2 : (0 : Int) ≤ (st.at_ : Int) := by omega
 have HPX := Aside0.mk (fun W => prefix_walk st.s pl W false hg)
 clear h hb hI hk
 generalize singleK c.toNat = K at *
 have hc69 : ((c.toNat : Int) == 69) = true := (u8_eq c 69 (by omega)).trans h69
 clear h69
 clear hg
 have hltb : decide ((st.at_ : Int) < (st.s.size : Int)) = true := decide_eq_true (by omega)
 have hltc : (st.at_ : Int) < (st.s.size : Int) := by omega
 have hdd : decide (0 ≤ Lib.indexByte [43, 45] (st.s[st.at_]'hlt)) = true := hpm
 clear hpm
 have HI3 := Aside0.mk (HI.out.at_ (st.at_ + 1) (by omega) (by omega))
 rcases hres : putM 5 (st.s.extract (pl + 1) (st.at_ + 1)) pl { st with at_ := st.at_ + 1 } with x | st'
 ·have HP := Aside0.mk (fun W (hr : Rd R W { st with at_ := st.at_ + 1 } vS vF) => put_err hres HI3.out hr)
  clear hres
  go_enter Tryd.func99, Tryd.ntmps99
  go_wp2_with (fail)
  (with_reducible refine (Tryd.strings_IndexByte _ _ _).mono ?_)
  rintro e w1 ⟨rfl, rfl⟩
  rw [u8_back]
  go_wp2_with (fail)
  (with_reducible refine HS.out.mono ?_)
  rintro e w2 ⟨rfl, hD⟩
  have HR2 := Aside0.mk (Rd.below HH.out hD.below)
  have HB2 := Aside0.mk (hD.below.mono (Nat.le_of_lt (blk_lt HH.out.blk)))
  have hc0 := HR2.out.c0
  have hc1 := HR2.out.c1
  have hf1 := blk_frozen HR2.out.blk 1
  clear hD
  go_wp2_with (fail)
  (with_reducible refine (HPX.out _).mono ?_)
  rintro e w3 ⟨rfl, rfl⟩
  go_wp2_with (fail)
  refine start_ (n := 31) (S := fun w' => w'.cell? ⟨R, 0, none⟩ = some (.string st.s) ∧ w'.cell? ⟨R, 1, none⟩ = some (.int .i64 st.at_)) (ds := []) (bl 31 0) (by kernel_rfl) rfl (by kernel_rfl) ⟨hc0, hc1⟩ (fun hHeld => ?_)
  refine pure_ (i := 0) (N := some 48) (v := ?_) (a' := ?_) (bl 31 1) rfl rfl (by kernel_rfl) (fun _ _ _ h => h) (Or.inl ⟨by rfl, ?_⟩) ?_ ?_
  rotate_left
  ·exact Z4
  rotate_left
  ·exact Z0
  refine pure_ (i := 1) (N := some 49) (v := ?_) (a' := ?_) (bl 31 3) rfl rfl (by kernel_rfl) (fun _ _ _ h => h) (Or.inl ⟨by rfl, ?_⟩) ?_ ?_
  rotate_left
  ·exact Z4
  rotate_left
  ·exact Z0
  refine pure_ (i := 2) (N := some 50) (v := ?_) (a' := ?_) (bl 31 7) rfl rfl (by kernel_rfl) (fun _ _ _ h => h) (Or.inl ⟨by rfl, ?_⟩) ?_ ?_
  rotate_left
  ·exact Z4
  rotate_left
  ·exact Z0
  refine pure_ (i := 3) (N := some 51) (v := undef) (a' := ?_) (bl 31 15) rfl rfl (by kernel_rfl) (fun _ _ _ h => h) (Or.inr ⟨by rfl, rfl⟩) ?_ ?_
  rotate_left
  ·exact Z0
  refine pure_ (i := 4) (N := some 52) (v := undef) (a' := ?_) (bl 31 31) rfl rfl (by kernel_rfl) (fun _ _ _ h => h) (Or.inr ⟨by rfl, rfl⟩) ?_ ?_
  rotate_left
  ·exact Z0
  refine pure_ (i := 5) (N := some 53) (v := ?_) (a' := ?_) (bl 31 63) rfl rfl (by kernel_rfl) (fun _ _ _ h => h) (Or.inl ⟨by rfl, ?_⟩) ?_ ?_
  rotate_left
  ·exact Z4
  rotate_left
  ·exact Z0
  refine pure_ (i := 6) (N := some 54) (v := ?_) (a' := ?_) (bl 31 127) rfl rfl (by kernel_rfl) (fun _ _ _ h => h) (Or.inl ⟨by rfl, ?_⟩) ?_ ?_
  rotate_left
  ·exact Z4
  rotate_left
  ·exact Z0
  refine pure_ (i := 7) (N := some 55) (v := ?_) (a' := ?_) (bl 31 255) rfl rfl (by kernel_rfl) (fun _ _ _ h => h) (Or.inl ⟨by rfl, ?_⟩) ?_ ?_
  rotate_left
  ·exact Z4
  rotate_left
  ·exact Z0
  refine pure_ (i := 8) (N := some 56) (v := ?_) (a' := ?_) (bl 31 511) rfl rfl (by kernel_rfl) (fun _ _ _ h => h) (Or.inl ⟨by rfl, ?_⟩) ?_ ?_
  rotate_left
  ·exact Z4
  rotate_left
  ·exact Z0
  refine pure_ (i := 9) (N := some 57) (v := ?_) (a' := ?_) (bl 31 1023) rfl rfl (by kernel_rfl) (fun _ _ _ h => h) (Or.inl ⟨by rfl, ?_⟩) ?_ ?_
  rotate_left
  ·exact Z4
  rotate_left
  ·exact Z0
  refine pure_ (i := 11) (N := some 59) (v := ?_) (a' := ?_) (bl 31 3071) rfl rfl (by kernel_rfl) (fun _ _ _ h => h) (Or.inl ⟨by rfl, ?_⟩) ?_ ?_
  rotate_left
  ·exact Z4
  rotate_left
  ·exact Z0
  refine pure_ (i := 12) (N := some 60) (v := ?_) (a' := ?_) (bl 31 7167) rfl rfl (by kernel_rfl) (fun _ _ _ h => h) (Or.inl ⟨by rfl, ?_⟩) ?_ ?_
  rotate_left
  ·exact Z4
  rotate_left
  ·exact Z0
  refine pure_ (i := 13) (N := some 61) (v := ?_) (a' := ?_) (bl 31 15359) rfl rfl (by kernel_rfl) (fun _ _ _ h => h) (Or.inl ⟨by rfl, ?_⟩) ?_ ?_
  rotate_left
  ·exact Z4
  rotate_left
  ·exact Z0
  refine take_ (i := 10) (N := some 58) (v := ?_) (a' := ?_) (bl 31 16383) rfl rfl (by kernel_rfl) (fun _ _ _ h => h) (Or.inl ⟨by rfl, ?_⟩) hHeld ?_ ?_
  rotate_left
  ·exact Z8
  rotate_left
  ·exact Z0
  refine take_ (i := 14) (N := some 62) (v := ?_) (a' := ?_) (bl 31 32767) rfl rfl (by kernel_rfl) (fun _ _ _ h => h) (Or.inl ⟨by rfl, ?_⟩) hHeld ?_ ?_
  rotate_left
  ·exact Z8
  rotate_left
  ·exact Z0
  refine pure_ (i := 15) (N := some 63) (v := ?_) (a' := ?_) (bl 31 65535) rfl rfl (by kernel_rfl) (fun _ _ _ h => h) (Or.inl ⟨by rfl, ?_⟩) ?_ ?_
  rotate_left
  ·exact Z4
  rotate_left
  ·exact Z0
  refine pure_ (i := 16) (N := some 64) (v := ?_) (a' := ?_) (bl 31 131071) rfl rfl (by kernel_rfl) (fun _ _ _ h => h) (Or.inl ⟨by rfl, ?_⟩) ?_ ?_
  rotate_left
  ·exact Z4
  rotate_left
  ·exact Z0
  refine pure_ (i := 17) (N := some 65) (v := ?_) (a' := ?_) (bl 31 262143) rfl rfl (by kernel_rfl) (fun _ _ _ h => h) (Or.inl ⟨by rfl, ?_⟩) ?_ ?_
  rotate_left
  ·exact Z4
  rotate_left
  ·exact Z0
  refine pure_ (i := 18) (N := some 66) (v := ?_) (a' := ?_) (bl 31 524287) rfl rfl (by kernel_rfl) (fun _ _ _ h => h) (Or.inl ⟨by rfl, ?_⟩) ?_ ?_
  rotate_left
  ·exact Z4
  rotate_left
  ·exact Z0
  refine pure_ (i := 19) (N := some 67) (v := ?_) (a' := ?_) (bl 31 1048575) rfl rfl (by kernel_rfl) (fun _ _ _ h => h) (Or.inl ⟨by rfl, ?_⟩) ?_ ?_
  rotate_left
  ·exact Z4
  rotate_left
  ·exact Z0
  refine pure_ (i := 20) (N := some 68) (v := ?_) (a' := ?_) (bl 31 2097151) rfl rfl (by kernel_rfl) (fun _ _ _ h => h) (Or.inl ⟨by rfl, ?_⟩) ?_ ?_
  rotate_left
  ·exact Z4
  rotate_left
  ·exact Z0
  refine pure_ (i := 21) (N := some 69) (v := ?_) (a' := ?_) (bl 31 4194303) rfl rfl (by kernel_rfl) (fun _ _ _ h => h) (Or.inl ⟨by rfl, ?_⟩) ?_ ?_
  rotate_left
  ·exact Z4
  rotate_left
  ·exact Z0
  refine pure_ (i := 23) (N := some 71) (v := ?_) (a' := ?_) (bl 31 12582911) rfl rfl (by kernel_rfl) (fun _ _ _ h => h) (Or.inl ⟨by rfl, ?_⟩) ?_ ?_
  rotate_left
  ·exact Z4
  rotate_left
  ·exact Z0
  refine pure_ (i := 24) (N := some 72) (v := ?_) (a' := ?_) (bl 31 29360127) rfl rfl (by kernel_rfl) (fun _ _ _ h => h) (Or.inl ⟨by rfl, ?_⟩) ?_ ?_
  rotate_left
  ·exact Z4
  rotate_left
  ·exact Z0
  refine pure_ (i := 25) (N := some 73) (v := ?_) (a' := ?_) (bl 31 62914559) rfl rfl (by kernel_rfl) (fun _ _ _ h => h) (Or.inl ⟨by rfl, ?_⟩) ?_ ?_
  rotate_left
  ·exact Z4
  rotate_left
  ·exact Z0
  refine take_ (i := 22) (N := some 70) (v := ?_) (a' := ?_) (bl 31 67108863) rfl rfl (by kernel_rfl) (fun _ _ _ h => h) (Or.inl ⟨by rfl, ?_⟩) hHeld ?_ ?_
  rotate_left
  ·exact Z8
  rotate_left
  ·exact Z0
  refine take_ (i := 26) (N := some 74) (v := ?_) (a' := ?_) (bl 31 134217727) rfl rfl (by kernel_rfl) (fun _ _ _ h => h) (Or.inl ⟨by rfl, ?_⟩) hHeld ?_ ?_
  rotate_left
  ·exact Z8
  rotate_left
  ·exact Z0
  refine take_ (i := 27) (N := some 75) (v := ?_) (a' := ?_) (bl 31 268435455) rfl rfl (by kernel_rfl) (fun _ _ _ h => h) (Or.inl ⟨by rfl, ?_⟩) hHeld ?_ ?_
  rotate_left
  ·exact Z8
  rotate_left
  ·exact Z0
  refine one_ (i := 28) (N := some 76) (bl 31 536870911) rfl rfl (by kernel_rfl) (by decide) (fun K hK => ?_)
  refine goes_ Tryd.func94 (by kernel_rfl) rfl #[.string ⟨#[43, 45]⟩, .int .u8 ((st.s[st.at_]'hlt).toNat : Int)] (by rfl) rfl rfl Z23 ?_
  with_reducible refine (Tryd.strings_IndexByte _ _ _).mono ?_
  rintro e w9 ⟨rfl, rfl⟩
  refine ⟨_, rfl, ?_⟩
  refine hK.out _ _ ⟨hHeld.1, hHeld.2⟩ (fun hHeld => ?_)
  clear hK K
  refine norm_ (a' := ?_) ?_ ?_
  rotate_left
  ·show Act.put _ (some 76) _ = _
   simp only [Act.put, sA_, s0_, s1_, i64_w, i32_w]
   rfl
  refine pure_ (i := 29) (N := some 77) (v := ?_) (a' := ?_) (bl 31 1073741823) rfl rfl (by kernel_rfl) (fun _ _ _ h => h) (Or.inl ⟨by rfl, ?_⟩) ?_ ?_
  rotate_left
  ·exact Z4
  rotate_left
  ·exact Z0
  refine pure_ (i := 30) (N := some 78) (v := ?_) (a' := ?_) (bl 31 2147483647) rfl rfl (by kernel_rfl) (fun _ _ _ h => h) (Or.inl ⟨by rfl, ?_⟩) ?_ ?_
  rotate_left
  ·exact Z4
  rotate_left
  ·exact Z0
  refine done_ (by kernel_rfl) ?_
  clear hHeld
  have HR3 := Aside0.mk (Rd.drew (HR2.out.setAt ((st.at_ : Int) + 1) (st.at_ + 1) (by omega)))
  have HB3 := Aside0.mk (below_drew (HB2.out.setCell (p := ⟨R, 1, none⟩) (Nat.le_refl R) (.int .i64 ((st.at_ : Int) + 1))))
  have hd0 := HR3.out.c0
  have hd1 := HR3.out.c1
  replace hd1 := hd1.trans (show _ = some (Value.int .i64 ((st.at_ : Int) + 1)) by simp)
  have hx1 : (pl : Int) + 1 ≤ (st.at_ : Int) + 1 := by omega
  have hx2 : (st.at_ : Int) + 1 ≤ (st.s.size : Int) := by omega
  have hx3 : ((pl : Int) + 1).toNat = pl + 1 := by omega
  have hx4 : ((st.at_ : Int) + 1).toNat = st.at_ + 1 := by omega
  have hx5 : (0 : Int) ≤ (pl : Int) + 1 := by omega
  have hx6 : wrap64 ((pl : Int) + 1) = (pl : Int) + 1 := by unfold wrap64; omega
  go_wp2_with (fail)
  refine start_ (n := 14) (S := fun w' => w'.cell? ⟨R, 0, none⟩ = some (.string st.s) ∧ w'.cell? ⟨R, 1, none⟩ = some (.int .i64 ((st.at_ : Int) + 1))) (ds := []) (bl 14 0) (by kernel_rfl) rfl (by kernel_rfl) ⟨hd0, hd1⟩ (fun hHeld => ?_)
  refine pure_ (i := 0) (N := some 86) (v := ?_) (a' := ?_) (bl 14 1) rfl rfl (by kernel_rfl) (fun _ _ _ h => h) (Or.inl ⟨by rfl, ?_⟩) ?_ ?_
  rotate_left
  ·exact Z4
  rotate_left
  ·exact Z0
  refine pure_ (i := 1) (N := some 87) (v := ?_) (a' := ?_) (bl 14 3) rfl rfl (by kernel_rfl) (fun _ _ _ h => h) (Or.inl ⟨by rfl, ?_⟩) ?_ ?_
  rotate_left
  ·exact Z4
  rotate_left
  ·exact Z0
  refine pure_ (i := 2) (N := some 88) (v := ?_) (a' := ?_) (bl 14 7) rfl rfl (by kernel_rfl) (fun _ _ _ h => h) (Or.inl ⟨by rfl, ?_⟩) ?_ ?_
  rotate_left
  ·exact Z4
  rotate_left
  ·exact Z0
  refine pure_ (i := 3) (N := some 89) (v := ?_) (a' := ?_) (bl 14 15) rfl rfl (by kernel_rfl) (fun _ _ _ h => h) (Or.inl ⟨by rfl, ?_⟩) ?_ ?_
  rotate_left
  ·exact Z4
  rotate_left
  ·exact Z0
  refine pure_ (i := 5) (N := some 91) (v := ?_) (a' := ?_) (bl 14 47) rfl rfl (by kernel_rfl) (fun _ _ _ h => h) (Or.inl ⟨by rfl, ?_⟩) ?_ ?_
  rotate_left
  ·exact Z4
  rotate_left
  ·exact Z0
  refine pure_ (i := 6) (N := some 92) (v := ?_) (a' := ?_) (bl 14 111) rfl rfl (by kernel_rfl) (fun _ _ _ h => h) (Or.inl ⟨by rfl, ?_⟩) ?_ ?_
  rotate_left
  ·exact Z4
  rotate_left
  ·exact Z0
  refine pure_ (i := 7) (N := some 93) (v := ?_) (a' := ?_) (bl 14 239) rfl rfl (by kernel_rfl) (fun _ _ _ h => h) (Or.inl ⟨by rfl, ?_⟩) ?_ ?_
  rotate_left
  ·exact Z4
  rotate_left
  ·exact Z0
  refine pure_ (i := 8) (N := some 94) (v := ?_) (a' := ?_) (bl 14 495) rfl rfl (by kernel_rfl) (fun _ _ _ h => h) (Or.inl ⟨by rfl, ?_⟩) ?_ ?_
  rotate_left
  ·exact Z4
  rotate_left
  ·exact Z0
  refine pure_ (i := 9) (N := some 95) (v := ?_) (a' := ?_) (bl 14 1007) rfl rfl (by kernel_rfl) (fun _ _ _ h => h) (Or.inl ⟨by rfl, ?_⟩) ?_ ?_
  rotate_left
  ·exact Z4
  rotate_left
  ·exact Z0
  refine pure_ (i := 12) (N := some 98) (v := ?_) (a' := ?_) (bl 14 5103) rfl rfl (by kernel_rfl) (fun _ _ _ h => h) (Or.inl ⟨by rfl, ?_⟩) ?_ ?_
  rotate_left
  ·exact Z4
  rotate_left
  ·exact Z0
  refine take_ (i := 4) (N := some 90) (v := ?_) (a' := ?_) (bl 14 5119) rfl rfl (by kernel_rfl) (fun _ _ _ h => h) (Or.inl ⟨by rfl, ?_⟩) hHeld ?_ ?_
  rotate_left
  ·exact Z8
  rotate_left
  ·exact Z0
  refine take_ (i := 10) (N := some 96) (v := ?_) (a' := ?_) (bl 14 6143) rfl rfl (by kernel_rfl) (fun _ _ _ h => h) (Or.inl ⟨by rfl, ?_⟩) hHeld ?_ ?_
  rotate_left
  ·exact Z8
  rotate_left
  ·exact Z0
  refine pure_ (i := 11) (N := some 97) (v := ?_) (a' := ?_) (bl 14 8191) rfl rfl (by kernel_rfl) (fun _ _ _ h => h) (Or.inl ⟨by rfl, ?_⟩) ?_ ?_
  rotate_left
  ·exact Z4
  rotate_left
  ·exact Z0
  refine one_ (i := 13) (N := some 99) (bl 14 16383) rfl rfl (by kernel_rfl) (by decide) (fun K hK => ?_)
  refine fails_ Tryd.func96 (by kernel_rfl) rfl #[.pointer (some ⟨R, 0, none⟩), .int .i64 5, .string (st.s.extract (pl + 1) (st.at_ + 1)), .int .i64 pl] (by rfl) rfl rfl Z23 ?_
  with_reducible refine (HP.out _ (Rd.drew HR3.out)).mono ?_
  rintro e w4 ⟨rfl, hb4⟩
  refine ⟨_, rfl, ?_⟩
  exact ⟨rfl, And.intro rfl (HB3.out.trans (below_drew' hb4))⟩
 ·have HP := Aside0.mk (fun W (hr : Rd R W { st with at_ := st.at_ + 1 } vS vF) => put_fine hres HI3.out hr)
  clear hres
  go_enter Tryd.func99, Tryd.ntmps99
  go_wp2_with (fail)
  (with_reducible refine (Tryd.strings_IndexByte _ _ _).mono ?_)
  rintro e w1 ⟨rfl, rfl⟩
  rw [u8_back]
  go_wp2_with (fail)
  (with_reducible refine HS.out.mono ?_)
  rintro e w2 ⟨rfl, hD⟩
  have HR2 := Aside0.mk (Rd.below HH.out hD.below)
  have HB2 := Aside0.mk (hD.below.mono (Nat.le_of_lt (blk_lt HH.out.blk)))
  have hc0 := HR2.out.c0
  have hc1 := HR2.out.c1
  have hf1 := blk_frozen HR2.out.blk 1
  clear hD
  go_wp2_with (fail)
  (with_reducible refine (HPX.out _).mono ?_)
  rintro e w3 ⟨rfl, rfl⟩
  go_wp2_with (fail)
  refine start_ (n := 31) (S := fun w' => w'.cell? ⟨R, 0, none⟩ = some (.string st.s) ∧ w'.cell? ⟨R, 1, none⟩ = some (.int .i64 st.at_)) (ds := []) (bl 31 0) (by kernel_rfl) rfl (by kernel_rfl) ⟨hc0, hc1⟩ (fun hHeld => ?_)
  refine pure_ (i := 0) (N := some 48) (v := ?_) (a' := ?_) (bl 31 1) rfl rfl (by kernel_rfl) (fun _ _ _ h => h) (Or.inl ⟨by rfl, ?_⟩) ?_ ?_
  rotate_left
  ·exact Z4
  rotate_left
  ·exact Z0
  refine pure_ (i := 1) (N := some 49) (v := ?_) (a' := ?_) (bl 31 3) rfl rfl (by kernel_rfl) (fun _ _ _ h => h) (Or.inl ⟨by rfl, ?_⟩) ?_ ?_
  rotate_left
  ·exact Z4
  rotate_left
  ·exact Z0
  refine pure_ (i := 2) (N := some 50) (v := ?_) (a' := ?_) (bl 31 7) rfl rfl (by kernel_rfl) (fun _ _ _ h => h) (Or.inl ⟨by rfl, ?_⟩) ?_ ?_
  rotate_left
  ·exact Z4
  rotate_left
  ·exact Z0
  refine pure_ (i := 3) (N := some 51) (v := undef) (a' := ?_) (bl 31 15) rfl rfl (by kernel_rfl) (fun _ _ _ h => h) (Or.inr ⟨by rfl, rfl⟩) ?_ ?_
  rotate_left
  ·exact Z0
  refine pure_ (i := 4) (N := some 52) (v := undef) (a' := ?_) (bl 31 31) rfl rfl (by kernel_rfl) (fun _ _ _ h => h) (Or.inr ⟨by rfl, rfl⟩) ?_ ?_
  rotate_left
  ·exact Z0
  refine pure_ (i := 5) (N := some 53) (v := ?_) (a' := ?_) (bl 31 63) rfl rfl (by kernel_rfl) (fun _ _ _ h => h) (Or.inl ⟨by rfl, ?_⟩) ?_ ?_
  rotate_left
  ·exact Z4
  rotate_left
  ·exact Z0
  refine pure_ (i := 6) (N := some 54) (v := ?_) (a' := ?_) (bl 31 127) rfl rfl (by kernel_rfl) (fun _ _ _ h => h) (Or.inl ⟨by rfl, ?_⟩) ?_ ?_
  rotate_left
  ·exact Z4
  rotate_left
  ·exact Z0
  refine pure_ (i := 7) (N := some 55) (v := ?_) (a' := ?_) (bl 31 255) rfl rfl (by kernel_rfl) (fun _ _ _ h => h) (Or.inl ⟨by rfl, ?_⟩) ?_ ?_
  rotate_left
  ·exact Z4
  rotate_left
  ·exact Z0
  refine pure_ (i := 8) (N := some 56) (v := ?_) (a' := ?_) (bl 31 511) rfl rfl (by kernel_rfl) (fun _ _ _ h => h) (Or.inl ⟨by rfl, ?_⟩) ?_ ?_
  rotate_left
  ·exact Z4
  rotate_left
  ·exact Z0
  refine pure_ (i := 9) (N := some 57) (v := ?_) (a' := ?_) (bl 31 1023) rfl rfl (by kernel_rfl) (fun _ _ _ h => h) (Or.inl ⟨by rfl, ?_⟩) ?_ ?_
  rotate_left
  ·exact Z4
  rotate_left
  ·exact Z0
  refine pure_ (i := 11) (N := some 59) (v := ?_) (a' := ?_) (bl 31 3071) rfl rfl (by kernel_rfl) (fun _ _ _ h => h) (Or.inl ⟨by rfl, ?_⟩) ?_ ?_
  rotate_left
  ·exact Z4
  rotate_left
  ·exact Z0
  refine pure_ (i := 12) (N := some 60) (v := ?_) (a' := ?_) (bl 31 7167) rfl rfl (by kernel_rfl) (fun _ _ _ h => h) (Or.inl ⟨by rfl, ?_⟩) ?_ ?_
  rotate_left
  ·exact Z4
  rotate_left
  ·exact Z0
  refine pure_ (i := 13) (N := some 61) (v := ?_) (a' := ?_) (bl 31 15359) rfl rfl (by kernel_rfl) (fun _ _ _ h => h) (Or.inl ⟨by rfl, ?_⟩) ?_ ?_
  rotate_left
  ·exact Z4
  rotate_left
  ·exact Z0
  refine take_ (i := 10) (N := some 58) (v := ?_) (a' := ?_) (bl 31 16383) rfl rfl (by kernel_rfl) (fun _ _ _ h => h) (Or.inl ⟨by rfl, ?_⟩) hHeld ?_ ?_
  rotate_left
  ·exact Z8
  rotate_left
  ·exact Z0
  refine take_ (i := 14) (N := some 62) (v := ?_) (a' := ?_) (bl 31 32767) rfl rfl (by kernel_rfl) (fun _ _ _ h => h) (Or.inl ⟨by rfl, ?_⟩) hHeld ?_ ?_
  rotate_left
  ·exact Z8
  rotate_left
  ·exact Z0
  refine pure_ (i := 15) (N := some 63) (v := ?_) (a' := ?_) (bl 31 65535) rfl rfl (by kernel_rfl) (fun _ _ _ h => h) (Or.inl ⟨by rfl, ?_⟩) ?_ ?_
  rotate_left
  ·exact Z4
  rotate_left
  ·exact Z0
  refine pure_ (i := 16) (N := some 64) (v := ?_) (a' := ?_) (bl 31 131071) rfl rfl (by kernel_rfl) (fun _ _ _ h => h) (Or.inl ⟨by rfl, ?_⟩) ?_ ?_
  rotate_left
  ·exact Z4
  rotate_left
  ·exact Z0
  refine pure_ (i := 17) (N := some 65) (v := ?_) (a' := ?_) (bl 31 262143) rfl rfl (by kernel_rfl) (fun _ _ _ h => h) (Or.inl ⟨by rfl, ?_⟩) ?_ ?_
  rotate_left
  ·exact Z4
  rotate_left
  ·exact Z0
  refine pure_ (i := 18) (N := some 66) (v := ?_) (a' := ?_) (bl 31 524287) rfl rfl (by kernel_rfl) (fun _ _ _ h => h) (Or.inl ⟨by rfl, ?_⟩) ?_ ?_
  rotate_left
  ·exact Z4
  rotate_left
  ·exact Z0
  refine pure_ (i := 19) (N := some 67) (v := ?_) (a' := ?_) (bl 31 1048575) rfl rfl (by kernel_rfl) (fun _ _ _ h => h) (Or.inl ⟨by rfl, ?_⟩) ?_ ?_
  rotate_left
  ·exact Z4
  rotate_left
  ·exact Z0
  refine pure_ (i := 20) (N := some 68) (v := ?_) (a' := ?_) (bl 31 2097151) rfl rfl (by kernel_rfl) (fun _ _ _ h => h) (Or.inl ⟨by rfl, ?_⟩) ?_ ?_
  rotate_left
  ·exact Z4
  rotate_left
  ·exact Z0
  refine pure_ (i := 21) (N := some 69) (v := ?_) (a' := ?_) (bl 31 4194303) rfl rfl (by kernel_rfl) (fun _ _ _ h => h) (Or.inl ⟨by rfl, ?_⟩) ?_ ?_
  rotate_left
  ·exact Z4
  rotate_left
  ·exact Z0
  refine pure_ (i := 23) (N := some 71) (v := ?_) (a' := ?_) (bl 31 12582911) rfl rfl (by kernel_rfl) (fun _ _ _ h => h) (Or.inl ⟨by rfl, ?_⟩) ?_ ?_
  rotate_left
  ·exact Z4
  rotate_left
  ·exact Z0
  refine pure_ (i := 24) (N := some 72) (v := ?_) (a' := ?_) (bl 31 29360127) rfl rfl (by kernel_rfl) (fun _ _ _ h => h) (Or.inl ⟨by rfl, ?_⟩) ?_ ?_
  rotate_left
  ·exact Z4
  rotate_left
  ·exact Z0
  refine pure_ (i := 25) (N := some 73) (v := ?_) (a' := ?_) (bl 31 62914559) rfl rfl (by kernel_rfl) (fun _ _ _ h => h) (Or.inl ⟨by rfl, ?_⟩) ?_ ?_
  rotate_left
  ·exact Z4
  rotate_left
  ·exact Z0
  refine take_ (i := 22) (N := some 70) (v := ?_) (a' := ?_) (bl 31 67108863) rfl rfl (by kernel_rfl) (fun _ _ _ h => h) (Or.inl ⟨by rfl, ?_⟩) hHeld ?_ ?_
  rotate_left
  ·exact Z8
  rotate_left
  ·exact Z0
  refine take_ (i := 26) (N := some 74) (v := ?_) (a' := ?_) (bl 31 134217727) rfl rfl (by kernel_rfl) (fun _ _ _ h => h) (Or.inl ⟨by rfl, ?_⟩) hHeld ?_ ?_
  rotate_left
  ·exact Z8
  rotate_left
  ·exact Z0
  refine take_ (i := 27) (N := some 75) (v := ?_) (a' := ?_) (bl 31 268435455) rfl rfl (by kernel_rfl) (fun _ _ _ h => h) (Or.inl ⟨by rfl, ?_⟩) hHeld ?_ ?_
  rotate_left
  ·exact Z8
  rotate_left
  ·exact Z0
  refine one_ (i := 28) (N := some 76) (bl 31 536870911) rfl rfl (by kernel_rfl) (by decide) (fun K hK => ?_)
  refine goes_ Tryd.func94 (by kernel_rfl) rfl #[.string ⟨#[43, 45]⟩, .int .u8 ((st.s[st.at_]'hlt).toNat : Int)] (by rfl) rfl rfl Z23 ?_
  with_reducible refine (Tryd.strings_IndexByte _ _ _).mono ?_
  rintro e w9 ⟨rfl, rfl⟩
  refine ⟨_, rfl, ?_⟩
  refine hK.out _ _ ⟨hHeld.1, hHeld.2⟩ (fun hHeld => ?_)
  clear hK K
  refine norm_ (a' := ?_) ?_ ?_
  rotate_left
  ·show Act.put _ (some 76) _ = _
   simp only [Act.put, sA_, s0_, s1_, i64_w, i32_w]
   rfl
  refine pure_ (i := 29) (N := some 77) (v := ?_) (a' := ?_) (bl 31 1073741823) rfl rfl (by kernel_rfl) (fun _ _ _ h => h) (Or.inl ⟨by rfl, ?_⟩) ?_ ?_
  rotate_left
  ·exact Z4
  rotate_left
  ·exact Z0
  refine pure_ (i := 30) (N := some 78) (v := ?_) (a' := ?_) (bl 31 2147483647) rfl rfl (by kernel_rfl) (fun _ _ _ h => h) (Or.inl ⟨by rfl, ?_⟩) ?_ ?_
  rotate_left
  ·exact Z4
  rotate_left
  ·exact Z0
  refine done_ (by kernel_rfl) ?_
  clear hHeld
  have HR3 := Aside0.mk (Rd.drew (HR2.out.setAt ((st.at_ : Int) + 1) (st.at_ + 1) (by omega)))
  have HB3 := Aside0.mk (below_drew (HB2.out.setCell (p := ⟨R, 1, none⟩) (Nat.le_refl R) (.int .i64 ((st.at_ : Int) + 1))))
  have hd0 := HR3.out.c0
  have hd1 := HR3.out.c1
  replace hd1 := hd1.trans (show _ = some (Value.int .i64 ((st.at_ : Int) + 1)) by simp)
  have hx1 : (pl : Int) + 1 ≤ (st.at_ : Int) + 1 := by omega
  have hx2 : (st.at_ : Int) + 1 ≤ (st.s.size : Int) := by omega
  have hx3 : ((pl : Int) + 1).toNat = pl + 1 := by omega
  have hx4 : ((st.at_ : Int) + 1).toNat = st.at_ + 1 := by omega
  have hx5 : (0 : Int) ≤ (pl : Int) + 1 := by omega
  have hx6 : wrap64 ((pl : Int) + 1) = (pl : Int) + 1 := by unfold wrap64; omega
  go_wp2_with (fail)
  refine start_ (n := 14) (S := fun w' => w'.cell? ⟨R, 0, none⟩ = some (.string st.s) ∧ w'.cell? ⟨R, 1, none⟩ = some (.int .i64 ((st.at_ : Int) + 1))) (ds := [13]) (bl 14 0) (by kernel_rfl) rfl (by kernel_rfl) ⟨hd0, hd1⟩ (fun hHeld => ?_)
  refine pure_ (i := 0) (N := some 86) (v := ?_) (a' := ?_) (bl 14 1) rfl rfl (by kernel_rfl) (fun _ _ _ h => h) (Or.inl ⟨by rfl, ?_⟩) ?_ ?_
  rotate_left
  ·exact Z4
  rotate_left
  ·exact Z0
  refine pure_ (i := 1) (N := some 87) (v := ?_) (a' := ?_) (bl 14 3) rfl rfl (by kernel_rfl) (fun _ _ _ h => h) (Or.inl ⟨by rfl, ?_⟩) ?_ ?_
  rotate_left
  ·exact Z4
  rotate_left
  ·exact Z0
  refine pure_ (i := 2) (N := some 88) (v := ?_) (a' := ?_) (bl 14 7) rfl rfl (by kernel_rfl) (fun _ _ _ h => h) (Or.inl ⟨by rfl, ?_⟩) ?_ ?_
  rotate_left
  ·exact Z4
  rotate_left
  ·exact Z0
  refine pure_ (i := 3) (N := some 89) (v := ?_) (a' := ?_) (bl 14 15) rfl rfl (by kernel_rfl) (fun _ _ _ h => h) (Or.inl ⟨by rfl, ?_⟩) ?_ ?_
  rotate_left
  ·exact Z4
  rotate_left
  ·exact Z0
  refine pure_ (i := 5) (N := some 91) (v := ?_) (a' := ?_) (bl 14 47) rfl rfl (by kernel_rfl) (fun _ _ _ h => h) (Or.inl ⟨by rfl, ?_⟩) ?_ ?_
  rotate_left
  ·exact Z4
  rotate_left
  ·exact Z0
  refine pure_ (i := 6) (N := some 92) (v := ?_) (a' := ?_) (bl 14 111) rfl rfl (by kernel_rfl) (fun _ _ _ h => h) (Or.inl ⟨by rfl, ?_⟩) ?_ ?_
  rotate_left
  ·exact Z4
  rotate_left
  ·exact Z0
  refine pure_ (i := 7) (N := some 93) (v := ?_) (a' := ?_) (bl 14 239) rfl rfl (by kernel_rfl) (fun _ _ _ h => h) (Or.inl ⟨by rfl, ?_⟩) ?_ ?_
  rotate_left
  ·exact Z4
  rotate_left
  ·exact Z0
  refine pure_ (i := 8) (N := some 94) (v := ?_) (a' := ?_) (bl 14 495) rfl rfl (by kernel_rfl) (fun _ _ _ h => h) (Or.inl ⟨by rfl, ?_⟩) ?_ ?_
  rotate_left
  ·exact Z4
  rotate_left
  ·exact Z0
  refine pure_ (i := 9) (N := some 95) (v := ?_) (a' := ?_) (bl 14 1007) rfl rfl (by kernel_rfl) (fun _ _ _ h => h) (Or.inl ⟨by rfl, ?_⟩) ?_ ?_
  rotate_left
  ·exact Z4
  rotate_left
  ·exact Z0
  refine pure_ (i := 12) (N := some 98) (v := ?_) (a' := ?_) (bl 14 5103) rfl rfl (by kernel_rfl) (fun _ _ _ h => h) (Or.inl ⟨by rfl, ?_⟩) ?_ ?_
  rotate_left
  ·exact Z4
  rotate_left
  ·exact Z0
  refine take_ (i := 4) (N := some 90) (v := ?_) (a' := ?_) (bl 14 5119) rfl rfl (by kernel_rfl) (fun _ _ _ h => h) (Or.inl ⟨by rfl, ?_⟩) hHeld ?_ ?_
  rotate_left
  ·exact Z8
  rotate_left
  ·exact Z0
  refine take_ (i := 10) (N := some 96) (v := ?_) (a' := ?_) (bl 14 6143) rfl rfl (by kernel_rfl) (fun _ _ _ h => h) (Or.inl ⟨by rfl, ?_⟩) hHeld ?_ ?_
  rotate_left
  ·exact Z8
  rotate_left
  ·exact Z0
  refine pure_ (i := 11) (N := some 97) (v := ?_) (a' := ?_) (bl 14 8191) rfl rfl (by kernel_rfl) (fun _ _ _ h => h) (Or.inl ⟨by rfl, ?_⟩) ?_ ?_
  rotate_left
  ·exact Z4
  rotate_left
  ·exact Z0
  refine last_ (i := 13) (N := some 99) (bl 14 16383) rfl rfl (by kernel_rfl) (by decide) (fun K hK => ?_)
  refine goes_ Tryd.func96 (by kernel_rfl) rfl #[.pointer (some ⟨R, 0, none⟩), .int .i64 5, .string (st.s.extract (pl + 1) (st.at_ + 1)), .int .i64 pl] (by rfl) rfl rfl Z23 ?_
  with_reducible refine (HP.out _ (Rd.drew HR3.out)).mono ?_
  rintro e w4 ⟨rfl, hr4, hb4⟩
  refine ⟨_, rfl, ?_⟩
  refine hK.out _ _ ?_
  clear hK K
  refine norm_ (a' := ?_) ?_ ?_
  rotate_left
  ·show Act.put _ (some 99) _ = _
   simp only [Act.put, sA_, s0_, s1_, i64_w, i32_w]
   rfl
  refine done_ (by kernel_rfl) ?_
  go_wp2
  go_end0
  exact ⟨rfl, hr4, HB3.out.trans (below_drew' hb4)⟩
set_option maxRecDepth 100000 in
set_option maxHeartbeats 8000000 in
theorem other_e_nolt (R : Nat) (st : RS) (vS vF : Value) (c : UInt8) (pl : Nat) (w : World) (hI : Inv st) (hpl : st.at_ ≤ st.s.size) (hp : pl ≤ st.at_) (hb : bareB c = false) (hk : ¬ 0 < singleK c.toNat) (hg : genB st.s pl = false) (h69 : (c == UInt8.ofNat 69) = false) (h101 : (c == UInt8.ofNat 101) = true) (hlt : ¬ st.at_ < st.s.size) (h : Rd R w st vS vF) :
  Calls Tryd.prog 99 #[.pointer (some ⟨R, 0, none⟩), .int .u8 c.toNat, .int .i64 pl] w (fun e w' => e = fault 12 pl ∧ Below R w w') := by
 have hbb : decide (0 ≤ Lib.indexByte [32, 45, 43, 40, 41, 58] c) = false := hb
 have hkk : decide (0 < singleK c.toNat) = false := decide_eq_false hk
 have HH := Aside0.mk h
 have HI := Aside0.mk hI
 have hsz := hI.sz
 have HS := Aside0.mk (pattern_single.calls c.toNat _ w (single_f _))
 have hi0 : (0 : Int) ≤ (pl : Int) := by omega
 have hi1 : (pl : Int) ≤ (st.s.size : Int) := by omega
 have hi2 : (0 : Int) ≤ (st.at_ : Int) := by omega
 have HPX := Aside0.mk (fun W => prefix_walk st.s pl W false hg)
 clear h hb hI hk
 generalize singleK c.toNat = K at *
 have hc69 : ((c.toNat : Int) == 69) = false := (u8_eq c 69 (by omega)).trans h69
 have hc101 : ((c.toNat : Int) == 101) = true := (u8_eq c 101 (by omega)).trans h101
 clear h69 h101
 clear hg
 have hltb : decide ((st.at_ : Int) < (st.s.size : Int)) = false := decide_eq_false (by omega)
 have hpn : ∀ (t : TypeId) (v : Value) (w : World), (Instr.panic (.iface t v)).run Tryd.prog w = .halt (.panic (.iface t v)) w := fun _ _ _ => rfl
 go_enter Tryd.func99, Tryd.ntmps99
 go_wp2_with (fail)
 (with_reducible refine (Tryd.strings_IndexByte _ _ _).mono ?_)
 rintro e w1 ⟨rfl, rfl⟩
 rw [u8_back]
 go_wp2_with (fail)
 (with_reducible refine HS.out.mono ?_)
 rintro e w2 ⟨rfl, hD⟩
 have HR2 := Aside0.mk (Rd.below HH.out hD.below)
 have HB2 := Aside0.mk (hD.below.mono (Nat.le_of_lt (blk_lt HH.out.blk)))
 have hc0 := HR2.out.c0
 have hc1 := HR2.out.c1
 have hf1 := blk_frozen HR2.out.blk 1
 clear hD
 go_wp2_with (fail)
 (with_reducible refine (HPX.out _).mono ?_)
 rintro e w3 ⟨rfl, rfl⟩
 go_wp2_with (fail)
 refine start_ (n := 31) (S := fun w' => w'.cell? ⟨R, 0, none⟩ = some (.string st.s) ∧ w'.cell? ⟨R, 1, none⟩ = some (.int .i64 st.at_)) (ds := []) (bl 31 0) (by kernel_rfl) rfl (by kernel_rfl) ⟨hc0, hc1⟩ (fun hHeld => ?_)
 refine pure_ (i := 0) (N := some 48) (v := ?_) (a' := ?_) (bl 31 1) rfl rfl (by kernel_rfl) (fun _ _ _ h => h) (Or.inl ⟨by rfl, ?_⟩) ?_ ?_
 rotate_left
 ·exact Z4
 rotate_left
 ·exact Z0
 refine pure_ (i := 1) (N := some 49) (v := ?_) (a' := ?_) (bl 31 3) rfl rfl (by kernel_rfl) (fun _ _ _ h => h) (Or.inl ⟨by rfl, ?_⟩) ?_ ?_
 rotate_left
 ·exact Z4
 rotate_left
 ·exact Z0
 refine pure_ (i := 2) (N := some 50) (v := ?_) (a' := ?_) (bl 31 7) rfl rfl (by kernel_rfl) (fun _ _ _ h => h) (Or.inl ⟨by rfl, ?_⟩) ?_ ?_
 rotate_left
 ·exact Z4
 rotate_left
 ·exact Z0
 refine pure_ (i := 3) (N := some 51) (v := ?_) (a' := ?_) (bl 31 15) rfl rfl (by kernel_rfl) (fun _ _ _ h => h) (Or.inl ⟨by rfl, ?_⟩) ?_ ?_
 rotate_left
 ·exact Z4
 rotate_left
 ·exact Z0
 refine pure_ (i := 4) (N := some 52) (v := ?_) (a' := ?_) (bl 31 31) rfl rfl (by kernel_rfl) (fun _ _ _ h => h) (Or.inl ⟨by rfl, ?_⟩) ?_ ?_
 rotate_left
 ·exact Z4
 rotate_left
 ·exact Z0
 refine pure_ (i := 5) (N := some 53) (v := ?_) (a' := ?_) (bl 31 63) rfl rfl (by kernel_rfl) (fun _ _ _ h => h) (Or.inl ⟨by rfl, ?_⟩) ?_ ?_
 rotate_left
 ·exact Z4
 rotate_left
 ·exact Z0
 refine pure_ (i := 6) (N := some 54) (v := ?_) (a' := ?_) (bl 31 127) rfl rfl (by kernel_rfl) (fun _ _ _ h => h) (Or.inl ⟨by rfl, ?_⟩) ?_ ?_
 rotate_left
 ·exact Z4
 rotate_left
 ·exact Z0
 refine pure_ (i := 7) (N := some 55) (v := ?_) (a' := ?_) (bl 31 255) rfl rfl (by kernel_rfl) (fun _ _ _ h => h) (Or.inl ⟨by rfl, ?_⟩) ?_ ?_
 rotate_left
 ·exact Z4
 rotate_left
 ·exact Z0
 refine pure_ (i := 8) (N := some 56) (v := ?_) (a' := ?_) (bl 31 511) rfl rfl (by kernel_rfl) (fun _ _ _ h => h) (Or.inl ⟨by rfl, ?_⟩) ?_ ?_
 rotate_left
 ·exact Z4
 rotate_left
 ·exact Z0
 refine pure_ (i := 9) (N := some 57) (v := ?_) (a' := ?_) (bl 31 1023) rfl rfl (by kernel_rfl) (fun _ _ _ h => h) (Or.inl ⟨by rfl, ?_⟩) ?_ ?_
 rotate_left
 ·exact Z4
 rotate_left
 ·exact Z0
 refine pure_ (i := 11) (N := some 59) (v := ?_) (a' := ?_) (bl 31 3071) rfl rfl (by kernel_rfl) (fun _ _ _ h => h) (Or.inl ⟨by rfl, ?_⟩) ?_ ?_
 rotate_left
 ·exact Z4
 rotate_left
 ·exact Z0
 refine pure_ (i := 12) (N := some 60) (v := ?_) (a' := ?_) (bl 31 7167) rfl rfl (by kernel_rfl) (fun _ _ _ h => h) (Or.inl ⟨by rfl, ?_⟩) ?_ ?_
 rotate_left
 ·exact Z4
 rotate_left
 ·exact Z0
 refine pure_ (i := 13) (N := some 61) (v := ?_) (a' := ?_) (bl 31 15359) rfl rfl (by kernel_rfl) (fun _ _ _ h => h) (Or.inl ⟨by rfl, ?_⟩) ?_ ?_
 rotate_left
 ·exact Z4
 rotate_left
 ·exact Z0
 refine take_ (i := 10) (N := some 58) (v := ?_) (a' := ?_) (bl 31 16383) rfl rfl (by kernel_rfl) (fun _ _ _ h => h) (Or.inl ⟨by rfl, ?_⟩) hHeld ?_ ?_
 rotate_left
 ·exact Z8
 rotate_left
 ·exact Z0
 refine take_ (i := 14) (N := some 62) (v := ?_) (a' := ?_) (bl 31 32767) rfl rfl (by kernel_rfl) (fun _ _ _ h => h) (Or.inl ⟨by rfl, ?_⟩) hHeld ?_ ?_
 rotate_left
 ·exact Z8
 rotate_left
 ·exact Z0
 refine pure_ (i := 15) (N := some 63) (v := ?_) (a' := ?_) (bl 31 65535) rfl rfl (by kernel_rfl) (fun _ _ _ h => h) (Or.inl ⟨by rfl, ?_⟩) ?_ ?_
 rotate_left
 ·exact Z4
 rotate_left
 ·exact Z0
 refine pure_ (i := 16) (N := some 64) (v := ?_) (a' := ?_) (bl 31 131071) rfl rfl (by kernel_rfl) (fun _ _ _ h => h) (Or.inl ⟨by rfl, ?_⟩) ?_ ?_
 rotate_left
 ·exact Z4
 rotate_left
 ·exact Z0
 refine pure_ (i := 17) (N := some 65) (v := ?_) (a' := ?_) (bl 31 262143) rfl rfl (by kernel_rfl) (fun _ _ _ h => h) (Or.inl ⟨by rfl, ?_⟩) ?_ ?_
 rotate_left
 ·exact Z4
 rotate_left
 ·exact Z0
 refine pure_ (i := 18) (N := some 66) (v := ?_) (a' := ?_) (bl 31 524287) rfl rfl (by kernel_rfl) (fun _ _ _ h => h) (Or.inl ⟨by rfl, ?_⟩) ?_ ?_
 rotate_left
 ·exact Z4
 rotate_left
 ·exact Z0
 refine pure_ (i := 19) (N := some 67) (v := undef) (a' := ?_) (bl 31 1048575) rfl rfl (by kernel_rfl) (fun _ _ _ h => h) (Or.inr ⟨by rfl, rfl⟩) ?_ ?_
 rotate_left
 ·exact Z0
 refine pure_ (i := 20) (N := some 68) (v := undef) (a' := ?_) (bl 31 2097151) rfl rfl (by kernel_rfl) (fun _ _ _ h => h) (Or.inr ⟨by rfl, rfl⟩) ?_ ?_
 rotate_left
 ·exact Z0
 refine pure_ (i := 21) (N := some 69) (v := undef) (a' := ?_) (bl 31 4194303) rfl rfl (by kernel_rfl) (fun _ _ _ h => h) (Or.inr ⟨by rfl, rfl⟩) ?_ ?_
 rotate_left
 ·exact Z0
 refine pure_ (i := 22) (N := some 70) (v := undef) (a' := ?_) (bl 31 8388607) rfl rfl (by kernel_rfl) (fun _ _ _ h => h) (Or.inr ⟨by rfl, rfl⟩) ?_ ?_
 rotate_left
 ·exact Z0
 refine pure_ (i := 23) (N := some 71) (v := undef) (a' := ?_) (bl 31 16777215) rfl rfl (by kernel_rfl) (fun _ _ _ h => h) (Or.inr ⟨by rfl, rfl⟩) ?_ ?_
 rotate_left
 ·exact Z0
 refine pure_ (i := 24) (N := some 72) (v := undef) (a' := ?_) (bl 31 33554431) rfl rfl (by kernel_rfl) (fun _ _ _ h => h) (Or.inr ⟨by rfl, rfl⟩) ?_ ?_
 rotate_left
 ·exact Z0
 refine pure_ (i := 25) (N := some 73) (v := undef) (a' := ?_) (bl 31 67108863) rfl rfl (by kernel_rfl) (fun _ _ _ h => h) (Or.inr ⟨by rfl, rfl⟩) ?_ ?_
 rotate_left
 ·exact Z0
 refine pure_ (i := 26) (N := some 74) (v := undef) (a' := ?_) (bl 31 134217727) rfl rfl (by kernel_rfl) (fun _ _ _ h => h) (Or.inr ⟨by rfl, rfl⟩) ?_ ?_
 rotate_left
 ·exact Z0
 refine pure_ (i := 27) (N := some 75) (v := undef) (a' := ?_) (bl 31 268435455) rfl rfl (by kernel_rfl) (fun _ _ _ h => h) (Or.inr ⟨by rfl, rfl⟩) ?_ ?_
 rotate_left
 ·exact Z0
 refine pure_ (i := 28) (N := some 76) (v := undef) (a' := ?_) (bl 31 536870911) rfl rfl (by kernel_rfl) (fun _ _ _ h => h) (Or.inr ⟨by rfl, rfl⟩) ?_ ?_
 rotate_left
 ·exact Z0
 refine pure_ (i := 29) (N := some 77) (v := undef) (a' := ?_) (bl 31 1073741823) rfl rfl (by kernel_rfl) (fun _ _ _ h => h) (Or.inr ⟨by rfl, rfl⟩) ?_ ?_
 rotate_left
 ·exact Z0
 refine pure_ (i := 30) (N := some 78) (v := ?_) (a' := ?_) (bl 31 2147483647) rfl rfl (by kernel_rfl) (fun _ _ _ h => h) (Or.inl ⟨by rfl, ?_⟩) ?_ ?_
 rotate_left
 ·exact Z4
 rotate_left
 ·exact Z0
 refine done_ (by kernel_rfl) ?_
 clear hHeld
 go_wp2
 exact ⟨rfl, rfl, below_drew HB2.out⟩
set_option maxRecDepth 100000 in
set_option maxHeartbeats 8000000 in
theorem other_e_nopm (R : Nat) (st : RS) (vS vF : Value) (c : UInt8) (pl : Nat) (w : World) (hI : Inv st) (hpl : st.at_ ≤ st.s.size) (hp : pl ≤ st.at_) (hb : bareB c = false) (hk : ¬ 0 < singleK c.toNat) (hg : genB st.s pl = false) (h69 : (c == UInt8.ofNat 69) = false) (h101 : (c == UInt8.ofNat 101) = true) (hlt : st.at_ < st.s.size) (hpm : pmB (st.s[st.at_]'hlt) = false) (h : Rd R w st vS vF) :
  Calls Tryd.prog 99 #[.pointer (some ⟨R, 0, none⟩), .int .u8 c.toNat, .int .i64 pl] w (fun e w' => e = fault 12 pl ∧ Below R w w') := by
 have hbb : decide (0 ≤ Lib.indexByte [32, 45, 43, 40, 41, 58] c) = false := hb
 have hkk : decide (0 < singleK c.toNat) = false := decide_eq_false hk
 have HH := Aside0.mk h
 have HI := Aside0.mk hI
 have hsz := hI.sz
 have HS := Aside0.mk (pattern_single.calls c.toNat _ w (single_f _))
 have hi0 : (0 : Int) ≤ (pl : Int) := by omega
 have hi1 : (pl : Int) ≤ (st.s.size : Int) := by omega
 have hi2 : (0 : Int) ≤ (st.at_ : Int) := by omega
 have HPX := Aside0.mk (fun W => prefix_walk st.s pl W false hg)
 clear h hb hI hk
 generalize singleK c.toNat = K at *
 have hc69 : ((c.toNat : Int) == 69) = false := (u8_eq c 69 (by omega)).trans h69
 have hc101 : ((c.toNat : Int) == 101) = true := (u8_eq c 101 (by omega)).trans h101
 clear h69 h101
 clear hg
 have hltb : decide ((st.at_ : Int) < (st.s.size : Int)) = true := decide_eq_true (by omega)
 have hltc : (st.at_ : Int) < (st.s.size : Int) := by omega
 have hdd : decide (0 ≤ Lib.indexByte [43, 45] (st.s[st.at_]'hlt)) = false := hpm
 clear hpm
 have hpn : ∀ (t : TypeId) (v : Value) (w : World), (Instr.panic (.iface t v)).run Tryd.prog w = .halt (.panic (.iface t v)) w := fun _ _ _ => rfl
 go_enter Tryd.func99, Tryd.ntmps99
 go_wp2_with (fail)
 (with_reducible refine (Tryd.strings_IndexByte _ _ _).mono ?_)
 rintro e w1 ⟨rfl, rfl⟩
 rw [u8_back]
 go_wp2_with (fail)
 (with_reducible refine HS.out.mono ?_)
 rintro e w2 ⟨rfl, hD⟩
 have HR2 := Aside0.mk (Rd.below HH.out hD.below)
 have HB2 := Aside0.mk (hD.below.mono (Nat.le_of_lt (blk_lt HH.out.blk)))
 have hc0 := HR2.out.c0
 have hc1 := HR2.out.c1
 have hf1 := blk_frozen HR2.out.blk 1
 clear hD
 go_wp2_with (fail)
 (with_reducible refine (HPX.out _).mono ?_)
 rintro e w3 ⟨rfl, rfl⟩
 go_wp2_with (fail)
 refine start_ (n := 31) (S := fun w' => w'.cell? ⟨R, 0, none⟩ = some (.string st.s) ∧ w'.cell? ⟨R, 1, none⟩ = some (.int .i64 st.at_)) (ds := []) (bl 31 0) (by kernel_rfl) rfl (by kernel_rfl) ⟨hc0, hc1⟩ (fun hHeld => ?_)
 refine pure_ (i := 0) (N := some 48) (v := ?_) (a' := ?_) (bl 31 1) rfl rfl (by kernel_rfl) (fun _ _ _ h => h) (Or.inl ⟨by rfl, ?_⟩) ?_ ?_
 rotate_left
 ·exact Z4
 rotate_left
 ·exact Z0
 refine pure_ (i := 1) (N := some 49) (v := ?_) (a' := ?_) (bl 31 3) rfl rfl (by kernel_rfl) (fun _ _ _ h => h) (Or.inl ⟨by rfl, ?_⟩) ?_ ?_
 rotate_left
 ·exact Z4
 rotate_left
 ·exact Z0
 refine pure_ (i := 2) (N := some 50) (v := ?_) (a' := ?_) (bl 31 7) rfl rfl (by kernel_rfl) (fun _ _ _ h => h) (Or.inl ⟨by rfl, ?_⟩) ?_ ?_
 rotate_left
 ·exact Z4
 rotate_left
 ·exact Z0
 refine pure_ (i := 3) (N := some 51) (v := ?_) (a' := ?_) (bl 31 15) rfl rfl (by kernel_rfl) (fun _ _ _ h => h) (Or.inl ⟨by rfl, ?_⟩) ?_ ?_
 rotate_left
 ·exact Z4
 rotate_left
 ·exact Z0
 refine pure_ (i := 4) (N := some 52) (v := ?_) (a' := ?_) (bl 31 31) rfl rfl (by kernel_rfl) (fun _ _ _ h => h) (Or.inl ⟨by rfl, ?_⟩) ?_ ?_
 rotate_left
 ·exact Z4
 rotate_left
 ·exact Z0
 refine pure_ (i := 5) (N := some 53) (v := ?_) (a' := ?_) (bl 31 63) rfl rfl (by kernel_rfl) (fun _ _ _ h => h) (Or.inl ⟨by rfl, ?_⟩) ?_ ?_
 rotate_left
 ·exact Z4
 rotate_left
 ·exact Z0
 refine pure_ (i := 6) (N := some 54) (v := ?_) (a' := ?_) (bl 31 127) rfl rfl (by kernel_rfl) (fun _ _ _ h => h) (Or.inl ⟨by rfl, ?_⟩) ?_ ?_
 rotate_left
 ·exact Z4
 rotate_left
 ·exact Z0
 refine pure_ (i := 7) (N := some 55) (v := ?_) (a' := ?_) (bl 31 255) rfl rfl (by kernel_rfl) (fun _ _ _ h => h) (Or.inl ⟨by rfl, ?_⟩) ?_ ?_
 rotate_left
 ·exact Z4
 rotate_left
 ·exact Z0
 refine pure_ (i := 8) (N := some 56) (v := ?_) (a' := ?_) (bl 31 511) rfl rfl (by kernel_rfl) (fun _ _ _ h => h) (Or.inl ⟨by rfl, ?_⟩) ?_ ?_
 rotate_left
 ·exact Z4
 rotate_left
 ·exact Z0
 refine pure_ (i := 9) (N := some 57) (v := ?_) (a' := ?_) (bl 31 1023) rfl rfl (by kernel_rfl) (fun _ _ _ h => h) (Or.inl ⟨by rfl, ?_⟩) ?_ ?_
 rotate_left
 ·exact Z4
 rotate_left
 ·exact Z0
 refine pure_ (i := 11) (N := some 59) (v := ?_) (a' := ?_) (bl 31 3071) rfl rfl (by kernel_rfl) (fun _ _ _ h => h) (Or.inl ⟨by rfl, ?_⟩) ?_ ?_
 rotate_left
 ·exact Z4
 rotate_left
 ·exact Z0
 refine pure_ (i := 12) (N := some 60) (v := ?_) (a' := ?_) (bl 31 7167) rfl rfl (by kernel_rfl) (fun _ _ _ h => h) (Or.inl ⟨by rfl, ?_⟩) ?_ ?_
 rotate_left
 ·exact Z4
 rotate_left
 ·exact Z0
 refine pure_ (i := 13) (N := some 61) (v := ?_) (a' := ?_) (bl 31 15359) rfl rfl (by kernel_rfl) (fun _ _ _ h => h) (Or.inl ⟨by rfl, ?_⟩) ?_ ?_
 rotate_left
 ·exact Z4
 rotate_left
 ·exact Z0
 refine take_ (i := 10) (N := some 58) (v := ?_) (a' := ?_) (bl 31 16383) rfl rfl (by kernel_rfl) (fun _ _ _ h => h) (Or.inl ⟨by rfl, ?_⟩) hHeld ?_ ?_
 rotate_left
 ·exact Z8
 rotate_left
 ·exact Z0
 refine take_ (i := 14) (N := some 62) (v := ?_) (a' := ?_) (bl 31 32767) rfl rfl (by kernel_rfl) (fun _ _ _ h => h) (Or.inl ⟨by rfl, ?_⟩) hHeld ?_ ?_
 rotate_left
 ·exact Z8
 rotate_left
 ·exact Z0
 refine pure_ (i := 15) (N := some 63) (v := ?_) (a' := ?_) (bl 31 65535) rfl rfl (by kernel_rfl) (fun _ _ _ h => h) (Or.inl ⟨by rfl, ?_⟩) ?_ ?_
 rotate_left
 ·exact Z4
 rotate_left
 ·exact Z0
 refine pure_ (i := 16) (N := some 64) (v := ?_) (a' := ?_) (bl 31 131071) rfl rfl (by kernel_rfl) (fun _ _ _ h => h) (Or.inl ⟨by rfl, ?_⟩) ?_ ?_
 rotate_left
 ·exact Z4
 rotate_left
 ·exact Z0
 refine pure_ (i := 17) (N := some 65) (v := ?_) (a' := ?_) (bl 31 262143) rfl rfl (by kernel_rfl) (fun _ _ _ h => h) (Or.inl ⟨by rfl, ?_⟩) ?_ ?_
 rotate_left
 ·exact Z4
 rotate_left
 ·exact Z0
 refine pure_ (i := 18) (N := some 66) (v := ?_) (a' := ?_) (bl 31 524287) rfl rfl (by kernel_rfl) (fun _ _ _ h => h) (Or.inl ⟨by rfl, ?_⟩) ?_ ?_
 rotate_left
 ·exact Z4
 rotate_left
 ·exact Z0
 refine pure_ (i := 19) (N := some 67) (v := ?_) (a' := ?_) (bl 31 1048575) rfl rfl (by kernel_rfl) (fun _ _ _ h => h) (Or.inl ⟨by rfl, ?_⟩) ?_ ?_
 rotate_left
 ·exact Z4
 rotate_left
 ·exact Z0
 refine pure_ (i := 20) (N := some 68) (v := ?_) (a' := ?_) (bl 31 2097151) rfl rfl (by kernel_rfl) (fun _ _ _ h => h) (Or.inl ⟨by rfl, ?_⟩) ?_ ?_
 rotate_left
 ·exact Z4
 rotate_left
 ·exact Z0
 refine pure_ (i := 21) (N := some 69) (v := ?_) (a' := ?_) (bl 31 4194303) rfl rfl (by kernel_rfl) (fun _ _ _ h => h) (Or.inl ⟨by rfl, ?_⟩) ?_ ?_
 rotate_left
 ·exact Z4
 rotate_left
 ·exact Z0
 refine pure_ (i := 23) (N := some 71) (v := ?_) (a' := ?_) (bl 31 12582911) rfl rfl (by kernel_rfl) (fun _ _ _ h => h) (Or.inl ⟨by rfl, ?_⟩) ?_ ?_
 rotate_left
 ·exact Z4
 rotate_left
 ·exact Z0
 refine pure_ (i := 24) (N := some 72) (v := ?_) (a' := ?_) (bl 31 29360127) rfl rfl (by kernel_rfl) (fun _ _ _ h => h) (Or.inl ⟨by rfl, ?_⟩) ?_ ?_
 rotate_left
 ·exact Z4
 rotate_left
 ·exact Z0
 refine pure_ (i := 25) (N := some 73) (v := ?_) (a' := ?_) (bl 31 62914559) rfl rfl (by kernel_rfl) (fun _ _ _ h => h) (Or.inl ⟨by rfl, ?_⟩) ?_ ?_
 rotate_left
 ·exact Z4
 rotate_left
 ·exact Z0
 refine take_ (i := 22) (N := some 70) (v := ?_) (a' := ?_) (bl 31 67108863) rfl rfl (by kernel_rfl) (fun _ _ _ h => h) (Or.inl ⟨by rfl, ?_⟩) hHeld ?_ ?_
 rotate_left
 ·exact Z8
 rotate_left
 ·exact Z0
 refine take_ (i := 26) (N := some 74) (v := ?_) (a' := ?_) (bl 31 134217727) rfl rfl (by kernel_rfl) (fun _ _ _ h => h) (Or.inl ⟨by rfl, ?_⟩) hHeld ?_ ?_
 rotate_left
 ·exact Z8
 rotate_left
 ·exact Z0
 refine take_ (i := 27) (N := some 75) (v := ?_) (a' := ?_) (bl 31 268435455) rfl rfl (by kernel_rfl) (fun _ _ _ h => h) (Or.inl ⟨by rfl, ?_⟩) hHeld ?_ ?_
 rotate_left
 ·exact Z8
 rotate_left
 ·exact Z0
 refine one_ (i := 28) (N := some 76) (bl 31 536870911) rfl rfl (by kernel_rfl) (by decide) (fun K hK => ?_)
 refine goes_ Tryd.func94 (by kernel_rfl) rfl #[.string ⟨#[43, 45]⟩, .int .u8 ((st.s[st.at_]'hlt).toNat : Int)] (by rfl) rfl rfl Z23 ?_
 with_reducible refine (Tryd.strings_IndexByte _ _ _).mono ?_
 rintro e w9 ⟨rfl, rfl⟩
 refine ⟨_, rfl, ?_⟩
 refine hK.out _ _ ⟨hHeld.1, hHeld.2⟩ (fun hHeld => ?_)
 clear hK K
 refine norm_ (a' := ?_) ?_ ?_
 rotate_left
 ·show Act.put _ (some 76) _ = _
  simp only [Act.put, sA_, s0_, s1_, i64_w, i32_w]
  rfl
 refine pure_ (i := 29) (N := some 77) (v := ?_) (a' := ?_) (bl 31 1073741823) rfl rfl (by kernel_rfl) (fun _ _ _ h => h) (Or.inl ⟨by rfl, ?_⟩) ?_ ?_
 rotate_left
 ·exact Z4
 rotate_left
 ·exact Z0
 refine pure_ (i := 30) (N := some 78) (v := ?_) (a' := ?_) (bl 31 2147483647) rfl rfl (by kernel_rfl) (fun _ _ _ h => h) (Or.inl ⟨by rfl, ?_⟩) ?_ ?_
 rotate_left
 ·exact Z4
 rotate_left
 ·exact Z0
 refine done_ (by kernel_rfl) ?_
 clear hHeld
 go_wp2
 exact ⟨rfl, rfl, below_drew HB2.out⟩
set_option maxRecDepth 100000 in
set_option maxHeartbeats 8000000 in
theorem other_e_exp (R : Nat) (st : RS) (vS vF : Value) (c : UInt8) (pl : Nat) (w : World) (hI : Inv st) (hpl : st.at_ ≤ st.s.size) (hp : pl ≤ st.at_) (hb : bareB c = false) (hk : ¬ 0 < singleK c.toNat) (hg : genB st.s pl = false) (h69 : (c == UInt8.ofNat 69) = false) (h101 : (c == UInt8.ofNat 101) = true) (hlt : st.at_ < st.s.size) (hpm : pmB (st.s[st.at_]'hlt) = true) (h : Rd R w st vS vF) :
  Calls Tryd.prog 99 #[.pointer (some ⟨R, 0, none⟩), .int .u8 c.toNat, .int .i64 pl] w (Res R w (putM 5 (st.s.extract (pl + 1) (st.at_ + 1)) pl { st with at_ := st.at_ + 1 })) := by
 have hbb : decide (0 ≤ Lib.indexByte [32, 45, 43, 40, 41, 58] c) = false := hb
 have hkk : decide (0 < singleK c.toNat) = false := decide_eq_false hk
 have HH := Aside0.mk h
 have HI := Aside0.mk hI
 have hsz := hI.sz
 have HS := Aside0.mk (pattern_single.calls c.toNat _ w (single_f _))
 have hi0 : (0 : Int) ≤ (pl : Int) := by omega
 have hi1 : (pl : Int) ≤ (st.s.size : Int) := by omega
 have hi2 : (0 : Int) ≤ (st.at_ : Int) := by omega
 have HPX := Aside0.mk (fun W => prefix_walk st.s pl W false hg)
 clear h hb hI hk
 generalize singleK c.toNat = K at *
 have hc69 : ((c.toNat : Int) == 69) = false := (u8_eq c 69 (by omega)).trans h69
 have hc101 : ((c.toNat : Int) == 101) = true := (u8_eq c 101 (by omega)).trans h101
 clear h69 h101
 clear hg
 have hltb : decide ((st.at_ : Int) < (st.s.size : Int)) = true := decide_eq_true (by omega)
 have hltc : (st.at_ : Int) < (st.s.size : Int) := by omega
 have hdd : decide (0 ≤ Lib.indexByte [43, 45] (st.s[st.at_]'hlt)) = true := hpm
 clear hpm
 have HI3 := Aside0.mk (HI.out.at_ (st.at_ + 1) (by omega) (by omega))
 rcases hres : putM 5 (st.s.extract (pl + 1) (st.at_ + 1)) pl { st with at_ := st.at_ + 1 } with x | st'
 ·have HP := Aside0.mk (fun W (hr : Rd R W { st with at_ := st.at_ + 1 } vS vF) => put_err hres HI3.out hr)
  clear hres
  go_enter Tryd.func99, Tryd.ntmps99
  go_wp2_with (fail)
  (with_reducible refine (Tryd.strings_IndexByte _ _ _).mono ?_)
  rintro e w1 ⟨rfl, rfl⟩
  rw [u8_back]
  go_wp2_with (fail)
  (with_reducible refine HS.out.mono ?_)
  rintro e w2 ⟨rfl, hD⟩
  have HR2 := Aside0.mk (Rd.below HH.out hD.below)
  have HB2 := Aside0.mk (hD.below.mono (Nat.le_of_lt (blk_lt HH.out.blk)))
  have hc0 := HR2.out.c0
  have hc1 := HR2.out.c1
  have hf1 := blk_frozen HR2.out.blk 1
  clear hD
  go_wp2_with (fail)
  (with_reducible refine (HPX.out _).mono ?_)
  rintro e w3 ⟨rfl, rfl⟩
  go_wp2_with (fail)
  refine start_ (n := 31) (S := fun w' => w'.cell? ⟨R, 0, none⟩ = some (.string st.s) ∧ w'.cell? ⟨R, 1, none⟩ = some (.int .i64 st.at_)) (ds := []) (bl 31 0) (by kernel_rfl) rfl (by kernel_rfl) ⟨hc0, hc1⟩ (fun hHeld => ?_)
  refine pure_ (i := 0) (N := some 48) (v := ?_) (a' := ?_) (bl 31 1) rfl rfl (by kernel_rfl) (fun _ _ _ h => h) (Or.inl ⟨by rfl, ?_⟩) ?_ ?_
  rotate_left
  ·exact Z4
  rotate_left
  ·exact Z0
  refine pure_ (i := 1) (N := some 49) (v := ?_) (a' := ?_) (bl 31 3) rfl rfl (by kernel_rfl) (fun _ _ _ h => h) (Or.inl ⟨by rfl, ?_⟩) ?_ ?_
  rotate_left
  ·exact Z4
  rotate_left
  ·exact Z0
  refine pure_ (i := 2) (N := some 50) (v := ?_) (a' := ?_) (bl 31 7) rfl rfl (by kernel_rfl) (fun _ _ _ h => h) (Or.inl ⟨by rfl, ?_⟩) ?_ ?_
  rotate_left
  ·exact Z4
  rotate_left
  ·exact Z0
  refine pure_ (i := 3) (N := some 51) (v := ?_) (a' := ?_) (bl 31 15) rfl rfl (by kernel_rfl) (fun _ _ _ h => h) (Or.inl ⟨by rfl, ?_⟩) ?_ ?_
  rotate_left
  ·exact Z4
  rotate_left
  ·exact Z0
  refine pure_ (i := 4) (N := some 52) (v := ?_) (a' := ?_) (bl 31 31) rfl rfl (by kernel_rfl) (fun _ _ _ h => h) (Or.inl ⟨by rfl, ?_⟩) ?_ ?_
  rotate_left
  ·exact Z4
  rotate_left
  ·exact Z0
  refine pure_ (i := 5) (N := some 53) (v := ?_) (a' := ?_) (bl 31 63) rfl rfl (by kernel_rfl) (fun _ _ _ h => h) (Or.inl ⟨by rfl, ?_⟩) ?_ ?_
  rotate_left
  ·exact Z4
  rotate_left
  ·exact Z0
  refine pure_ (i := 6) (N := some 54) (v := ?_) (a' := ?_) (bl 31 127) rfl rfl (by kernel_rfl) (fun _ _ _ h => h) (Or.inl ⟨by rfl, ?_⟩) ?_ ?_
  rotate_left
  ·exact Z4
  rotate_left
  ·exact Z0
  refine pure_ (i := 7) (N := some 55) (v := ?_) (a' := ?_) (bl 31 255) rfl rfl (by kernel_rfl) (fun _ _ _ h => h) (Or.inl ⟨by rfl, ?_⟩) ?_ ?_
  rotate_left
  ·exact Z4
  rotate_left
  ·exact Z0
  refine pure_ (i := 8) (N := some 56) (v := ?_) (a' := ?_) (bl 31 511) rfl rfl (by kernel_rfl) (fun _ _ _ h => h) (Or.inl ⟨by rfl, ?_⟩) ?_ ?_
  rotate_left
  ·exact Z4
  rotate_left
  ·exact Z0
  refine pure_ (i := 9) (N := some 57) (v := ?_) (a' := ?_) (bl 31 1023) rfl rfl (by kernel_rfl) (fun _ _ _ h => h) (Or.inl ⟨by rfl, ?_⟩) ?_ ?_
  rotate_left
  ·exact Z4
  rotate_left
  ·exact Z0
  refine pure_ (i := 11) (N := some 59) (v := ?_) (a' := ?_) (bl 31 3071) rfl rfl (by kernel_rfl) (fun _ _ _ h => h) (Or.inl ⟨by rfl, ?_⟩) ?_ ?_
  rotate_left
  ·exact Z4
  rotate_left
  ·exact Z0
  refine pure_ (i := 12) (N := some 60) (v := ?_) (a' := ?_) (bl 31 7167) rfl rfl (by kernel_rfl) (fun _ _ _ h => h) (Or.inl ⟨by rfl, ?_⟩) ?_ ?_
  rotate_left
  ·exact Z4
  rotate_left
  ·exact Z0
  refine pure_ (i := 13) (N := some 61) (v := ?_) (a' := ?_) (bl 31 15359) rfl rfl (by kernel_rfl) (fun _ _ _ h => h) (Or.inl ⟨by rfl, ?_⟩) ?_ ?_
  rotate_left
  ·exact Z4
  rotate_left
  ·exact Z0
  refine take_ (i := 10) (N := some 58) (v := ?_) (a' := ?_) (bl 31 16383) rfl rfl (by kernel_rfl) (fun _ _ _ h => h) (Or.inl ⟨by rfl, ?_⟩) hHeld ?_ ?_
  rotate_left
  ·exact Z8
  rotate_left
  ·exact Z0
  refine take_ (i := 14) (N := some 62) (v := ?_) (a' := ?_) (bl 31 32767) rfl rfl (by kernel_rfl) (fun _ _ _ h => h) (Or.inl ⟨by rfl, ?_⟩) hHeld ?_ ?_
  rotate_left
  ·exact Z8
  rotate_left
  ·exact Z0
  refine pure_ (i := 15) (N := some 63) (v := ?_) (a' := ?_) (bl 31 65535) rfl rfl (by kernel_rfl) (fun _ _ _ h => h) (Or.inl ⟨by rfl, ?_⟩) ?_ ?_
  rotate_left
  ·exact Z4
  rotate_left
  ·exact Z0
  refine pure_ (i := 16) (N := some 64) (v := ?_) (a' := ?_) (bl 31 131071) rfl rfl (by kernel_rfl) (fun _ _ _ h => h) (Or.inl ⟨by rfl, ?_⟩) ?_ ?_
  rotate_left
  ·exact Z4
  rotate_left
  ·exact Z0
  refine pure_ (i := 17) (N := some 65) (v := ?_) (a' := ?_) (bl 31 262143) rfl rfl (by kernel_rfl) (fun _ _ _ h => h) (Or.inl ⟨by rfl, ?_⟩) ?_ ?_
  rotate_left
  ·exact Z4
  rotate_left
  ·exact Z0
  refine pure_ (i := 18) (N := some 66) (v := ?_) (a' := ?_) (bl 31 524287) rfl rfl (by kernel_rfl) (fun _ _ _ h => h) (Or.inl ⟨by rfl, ?_⟩) ?_ ?_
  rotate_left
  ·exact Z4
  rotate_left
  ·exact Z0
  refine pure_ (i := 19) (N := some 67) (v := ?_) (a' := ?_) (bl 31 1048575) rfl rfl (by kernel_rfl) (fun _ _ _ h => h) (Or.inl ⟨by rfl, ?_⟩) ?_ ?_
  rotate_left
  ·exact Z4
  rotate_left
  ·exact Z0
  refine pure_ (i := 20) (N := some 68) (v := ?_) (a' := ?_) (bl 31 2097151) rfl rfl (by kernel_rfl) (fun _ _ _ h => h) (Or.inl ⟨by rfl, ?_⟩) ?_ ?_
  rotate_left
  ·exact Z4
  rotate_left
  ·exact Z0
  refine pure_ (i := 21) (N := some 69) (v := ?_) (a' := ?_) (bl 31 4194303) rfl rfl (by kernel_rfl) (fun _ _ _ h => h) (Or.inl ⟨by rfl, ?_⟩) ?_ ?_
  rotate_left
  ·exact Z4
  rotate_left
  ·exact Z0
  refine pure_ (i := 23) (N := some 71) (v := ?_) (a' := ?_) (bl 31 12582911) rfl rfl (by kernel_rfl) (fun _ _ _ h => h) (Or.inl ⟨by rfl, ?_⟩) ?_ ?_
  rotate_left
  ·exact Z4
  rotate_left
  ·exact Z0
  refine pure_ (i := 24) (N := some 72) (v := ?_) (a' := ?_) (bl 31 29360127) rfl rfl (by kernel_rfl) (fun _ _ _ h => h) (Or.inl ⟨by rfl, ?_⟩) ?_ ?_
  rotate_left
  ·exact Z4
  rotate_left
  ·exact Z0
  refine pure_ (i := 25) (N := some 73) (v := ?_) (a' := ?_) (bl 31 62914559) rfl rfl (by kernel_rfl) (fun _ _ _ h => h) (Or.inl ⟨by rfl, ?_⟩) ?_ ?_
  rotate_left
  ·exact Z4
  rotate_left
  ·exact Z0
  refine take_ (i := 22) (N := some 70) (v := ?_) (a' := ?_) (bl 31 67108863) rfl rfl (by kernel_rfl) (fun _ _ _ h => h) (Or.inl ⟨by rfl, ?_⟩) hHeld ?_ ?_
  rotate_left
  ·exact Z8
  rotate_left
  ·exact Z0
  refine take_ (i := 26) (N := some 74) (v := ?_) (a' := ?_) (bl 31 134217727) rfl rfl (by kernel_rfl) (fun _ _ _ h => h) (Or.inl ⟨by rfl, ?_⟩) hHeld ?_ ?_
  rotate_left
  ·exact Z8
  rotate_left
  ·exact Z0
  refine take_ (i := 27) (N := some 75) (v := ?_) (a' := ?_) (bl 31 268435455) rfl rfl (by kernel_rfl) (fun _ _ _ h => h) (Or.inl ⟨by rfl, ?_⟩) hHeld ?_ ?_
  rotate_left
  ·exact Z8
  rotate_left
  ·exact Z0
  refine one_ (i := 28) (N := some 76) (bl 31 536870911) rfl rfl (by kernel_rfl) (by decide) (fun K hK => ?_)
  refine goes_ Tryd.func94 (by kernel_rfl) rfl #[.string ⟨#[43, 45]⟩, .int .u8 ((st.s[st.at_]'hlt).toNat : Int)] (by rfl) rfl rfl Z23 ?_
  with_reducible refine (Tryd.strings_IndexByte _ _ _).mono ?_
  rintro e w9 ⟨rfl, rfl⟩
  refine ⟨_, rfl, ?_⟩
  refine hK.out _ _ ⟨hHeld.1, hHeld.2⟩ (fun hHeld => ?_)
  clear hK K
  refine norm_ (a' := ?_) ?_ ?_
  rotate_left
  ·show Act.put _ (some 76) _ = _
   simp only [Act.put, sA_, s0_, s1_, i64_w, i32_w]
   rfl
  refine pure_ (i := 29) (N := some 77) (v := ?_) (a' := ?_) (bl 31 1073741823) rfl rfl (by kernel_rfl) (fun _ _ _ h => h) (Or.inl ⟨by rfl, ?_⟩) ?_ ?_
  rotate_left
  ·exact Z4
  rotate_left
  ·exact Z0
  refine pure_ (i := 30) (N := some 78) (v := ?_) (a' := ?_) (bl 31 2147483647) rfl rfl (by kernel_rfl) (fun _ _ _ h => h) (Or.inl ⟨by rfl, ?_⟩) ?_ ?_
  rotate_left
  ·exact Z4
  rotate_left
  ·exact Z0
  refine done_ (by kernel_rfl) ?_
  clear hHeld
  have HR3 := Aside0.mk (Rd.drew (HR2.out.setAt ((st.at_ : Int) + 1) (st.at_ + 1) (by omega)))
  have HB3 := Aside0.mk (below_drew (HB2.out.setCell (p := ⟨R, 1, none⟩) (Nat.le_refl R) (.int .i64 ((st.at_ : Int) + 1))))
  have hd0 := HR3.out.c0
  have hd1 := HR3.out.c1
  replace hd1 := hd1.trans (show _ = some (Value.int .i64 ((st.at_ : Int) + 1)) by simp)
  have hx1 : (pl : Int) + 1 ≤ (st.at_ : Int) + 1 := by omega
  have hx2 : (st.at_ : Int) + 1 ≤ (st.s.size : Int) := by omega
  have hx3 : ((pl : Int) + 1).toNat = pl + 1 := by omega
  have hx4 : ((st.at_ : Int) + 1).toNat = st.at_ + 1 := by omega
  have hx5 : (0 : Int) ≤ (pl : Int) + 1 := by omega
  have hx6 : wrap64 ((pl : Int) + 1) = (pl : Int) + 1 := by unfold wrap64; omega
  go_wp2_with (fail)
  refine start_ (n := 14) (S := fun w' => w'.cell? ⟨R, 0, none⟩ = some (.string st.s) ∧ w'.cell? ⟨R, 1, none⟩ = some (.int .i64 ((st.at_ : Int) + 1))) (ds := []) (bl 14 0) (by kernel_rfl) rfl (by kernel_rfl) ⟨hd0, hd1⟩ (fun hHeld => ?_)
  refine pure_ (i := 0) (N := some 86) (v := ?_) (a' := ?_) (bl 14 1) rfl rfl (by kernel_rfl) (fun _ _ _ h => h) (Or.inl ⟨by rfl, ?_⟩) ?_ ?_
  rotate_left
  ·exact Z4
  rotate_left
  ·exact Z0
  refine pure_ (i := 1) (N := some 87) (v := ?_) (a' := ?_) (bl 14 3) rfl rfl (by kernel_rfl) (fun _ _ _ h => h) (Or.inl ⟨by rfl, ?_⟩) ?_ ?_
  rotate_left
  ·exact Z4
  rotate_left
  ·exact Z0
  refine pure_ (i := 2) (N := some 88) (v := ?_) (a' := ?_) (bl 14 7) rfl rfl (by kernel_rfl) (fun _ _ _ h => h) (Or.inl ⟨by rfl, ?_⟩) ?_ ?_
  rotate_left
  ·exact Z4
  rotate_left
  ·exact Z0
  refine pure_ (i := 3) (N := some 89) (v := ?_) (a' := ?_) (bl 14 15) rfl rfl (by kernel_rfl) (fun _ _ _ h => h) (Or.inl ⟨by rfl, ?_⟩) ?_ ?_
  rotate_left
  ·exact Z4
  rotate_left
  ·exact Z0
  refine pure_ (i := 5) (N := some 91) (v := ?_) (a' := ?_) (bl 14 47) rfl rfl (by kernel_rfl) (fun _ _ _ h => h) (Or.inl ⟨by rfl, ?_⟩) ?_ ?_
  rotate_left
  ·exact Z4
  rotate_left
  ·exact Z0
  refine pure_ (i := 6) (N := some 92) (v := ?_) (a' := ?_) (bl 14 111) rfl rfl (by kernel_rfl) (fun _ _ _ h => h) (Or.inl ⟨by rfl, ?_⟩) ?_ ?_
  rotate_left
  ·exact Z4
  rotate_left
  ·exact Z0
  refine pure_ (i := 7) (N := some 93) (v := ?_) (a' := ?_) (bl 14 239) rfl rfl (by kernel_rfl) (fun _ _ _ h => h) (Or.inl ⟨by rfl, ?_⟩) ?_ ?_
  rotate_left
  ·exact Z4
  rotate_left
  ·exact Z0
  refine pure_ (i := 8) (N := some 94) (v := ?_) (a' := ?_) (bl 14 495) rfl rfl (by kernel_rfl) (fun _ _ _ h => h) (Or.inl ⟨by rfl, ?_⟩) ?_ ?_
  rotate_left
  ·exact Z4
  rotate_left
  ·exact Z0
  refine pure_ (i := 9) (N := some 95) (v := ?_) (a' := ?_) (bl 14 1007) rfl rfl (by kernel_rfl) (fun _ _ _ h => h) (Or.inl ⟨by rfl, ?_⟩) ?_ ?_
  rotate_left
  ·exact Z4
  rotate_left
  ·exact Z0
  refine pure_ (i := 12) (N := some 98) (v := ?_) (a' := ?_) (bl 14 5103) rfl rfl (by kernel_rfl) (fun _ _ _ h => h) (Or.inl ⟨by rfl, ?_⟩) ?_ ?_
  rotate_left
  ·exact Z4
  rotate_left
  ·exact Z0
  refine take_ (i := 4) (N := some 90) (v := ?_) (a' := ?_) (bl 14 5119) rfl rfl (by kernel_rfl) (fun _ _ _ h => h) (Or.inl ⟨by rfl, ?_⟩) hHeld ?_ ?_
  rotate_left
  ·exact Z8
  rotate_left
  ·exact Z0
  refine take_ (i := 10) (N := some 96) (v := ?_) (a' := ?_) (bl 14 6143) rfl rfl (by kernel_rfl) (fun _ _ _ h => h) (Or.inl ⟨by rfl, ?_⟩) hHeld ?_ ?_
  rotate_left
  ·exact Z8
  rotate_left
  ·exact Z0
  refine pure_ (i := 11) (N := some 97) (v := ?_) (a' := ?_) (bl 14 8191) rfl rfl (by kernel_rfl) (fun _ _ _ h => h) (Or.inl ⟨by rfl, ?_⟩) ?_ ?_
  rotate_left
  ·exact Z4
  rotate_left
  ·exact Z0
  refine one_ (i := 13) (N := some 99) (bl 14 16383) rfl rfl (by kernel_rfl) (by decide) (fun K hK => ?_)
  refine fails_ Tryd.func96 (by kernel_rfl) rfl #[.pointer (some ⟨R, 0, none⟩), .int .i64 5, .string (st.s.extract (pl + 1) (st.at_ + 1)), .int .i64 pl] (by rfl) rfl rfl Z23 ?_
  with_reducible refine (HP.out _ (Rd.drew HR3.out)).mono ?_
  rintro e w4 ⟨rfl, hb4⟩
  refine ⟨_, rfl, ?_⟩
  exact ⟨rfl, And.intro rfl (HB3.out.trans (below_drew' hb4))⟩
 ·have HP := Aside0.mk (fun W (hr : Rd R W { st with at_ := st.at_ + 1 } vS vF) => put_fine hres HI3.out hr)
  clear hres
  go_enter Tryd.func99, Tryd.ntmps99
  go_wp2_with (fail)
  (with_reducible refine (Tryd.strings_IndexByte _ _ _).mono ?_)
  rintro e w1 ⟨rfl, rfl⟩
  rw [u8_back]
  go_wp2_with (fail)
  (with_reducible refine HS.out.mono ?_)
  rintro e w2 ⟨rfl, hD⟩
  have HR2 := Aside0.mk (Rd.below HH.out hD.below)
  have HB2 := Aside0.mk (hD.below.mono (Nat.le_of_lt (blk_lt HH.out.blk)))
  have hc0 := HR2.out.c0
  have hc1 := HR2.out.c1
  have hf1 := blk_frozen HR2.out.blk 1
  clear hD
  go_wp2_with (fail)
  (with_reducible refine (HPX.out _).mono ?_)
  rintro e w3 ⟨rfl, rfl⟩
  go_wp2_with (fail)
  refine start_ (n := 31) (S := fun w' => w'.cell? ⟨R, 0, none⟩ = some (.string st.s) ∧ w'.cell? ⟨R, 1, none⟩ = some (.int .i64 st.at_)) (ds := []) (bl 31 0) (by kernel_rfl) rfl (by kernel_rfl) ⟨hc0, hc1⟩ (fun hHeld => ?_)
  refine pure_ (i := 0) (N := some 48) (v := ?_) (a' := ?_) (bl 31 1) rfl rfl (by kernel_rfl) (fun _ _ _ h => h) (Or.inl ⟨by rfl, ?_⟩) ?_ ?_
  rotate_left
  ·exact Z4
  rotate_left
  ·exact Z0
  refine pure_ (i := 1) (N := some 49) (v := ?_) (a' := ?_) (bl 31 3) rfl rfl (by kernel_rfl) (fun _ _ _ h => h) (Or.inl ⟨by rfl, ?_⟩) ?_ ?_
  rotate_left
  ·exact Z4
  rotate_left
  ·exact Z0
  refine pure_ (i := 2) (N := some 50) (v := ?_) (a' := ?_) (bl 31 7) rfl rfl (by kernel_rfl) (fun _ _ _ h => h) (Or.inl ⟨by rfl, ?_⟩) ?_ ?_
  rotate_left
  ·exact Z4
  rotate_left
  ·exact Z0
  refine pure_ (i := 3) (N := some 51) (v := ?_) (a' := ?_) (bl 31 15) rfl rfl (by kernel_rfl) (fun _ _ _ h => h) (Or.inl ⟨by rfl, ?_⟩) ?_ ?_
  rotate_left
  ·exact Z4
  rotate_left
  ·exact Z0
  refine pure_ (i := 4) (N := some 52) (v := ?_) (a' := ?_) (bl 31 31) rfl rfl (by kernel_rfl) (fun _ _ _ h => h) (Or.inl ⟨by rfl, ?_⟩) ?_ ?_
  rotate_left
  ·exact Z4
  rotate_left
  ·exact Z0
  refine pure_ (i := 5) (N := some 53) (v := ?_) (a' := ?_) (bl 31 63) rfl rfl (by kernel_rfl) (fun _ _ _ h => h) (Or.inl ⟨by rfl, ?_⟩) ?_ ?_
  rotate_left
  ·exact Z4
  rotate_left
  ·exact Z0
  refine pure_ (i := 6) (N := some 54) (v := ?_) (a' := ?_) (bl 31 127) rfl rfl (by kernel_rfl) (fun _ _ _ h => h) (Or.inl ⟨by rfl, ?_⟩) ?_ ?_
  rotate_left
  ·exact Z4
  rotate_left
  ·exact Z0
  refine pure_ (i := 7) (N := some 55) (v := ?_) (a' := ?_) (bl 31 255) rfl rfl (by kernel_rfl) (fun _ _ _ h => h) (Or.inl ⟨by rfl, ?_⟩) ?_ ?_
  rotate_left
  ·exact Z4
  rotate_left
  ·exact Z0
  refine pure_ (i := 8) (N := some 56) (v := ?_) (a' := ?_) (bl 31 511) rfl rfl (by kernel_rfl) (fun _ _ _ h => h) (Or.inl ⟨by rfl, ?_⟩) ?_ ?_
  rotate_left
  ·exact Z4
  rotate_left
  ·exact Z0
  refine pure_ (i := 9) (N := some 57) (v := ?_) (a' := ?_) (bl 31 1023) rfl rfl (by kernel_rfl) (fun _ _ _ h => h) (Or.inl ⟨by rfl, ?_⟩) ?_ ?_
  rotate_left
  ·exact Z4
  rotate_left
  ·exact Z0
  refine pure_ (i := 11) (N := some 59) (v := ?_) (a' := ?_) (bl 31 3071) rfl rfl (by kernel_rfl) (fun _ _ _ h => h) (Or.inl ⟨by rfl, ?_⟩) ?_ ?_
  rotate_left
  ·exact Z4
  rotate_left
  ·exact Z0
  refine pure_ (i := 12) (N := some 60) (v := ?_) (a' := ?_) (bl 31 7167) rfl rfl (by kernel_rfl) (fun _ _ _ h => h) (Or.inl ⟨by rfl, ?_⟩) ?_ ?_
  rotate_left
  ·exact Z4
  rotate_left
  ·exact Z0
  refine pure_ (i := 13) (N := some 61) (v := ?_) (a' := ?_) (bl 31 15359) rfl rfl (by kernel_rfl) (fun _ _ _ h => h) (Or.inl ⟨by rfl, ?_⟩) ?_ ?_
  rotate_left
  ·exact Z4
  rotate_left
  ·exact Z0
  refine take_ (i := 10) (N := some 58) (v := ?_) (a' := ?_) (bl 31 16383) rfl rfl (by kernel_rfl) (fun _ _ _ h => h) (Or.inl ⟨by rfl, ?_⟩) hHeld ?_ ?_
  rotate_left
  ·exact Z8
  rotate_left
  ·exact Z0
  refine take_ (i := 14) (N := some 62) (v := ?_) (a' := ?_) (bl 31 32767) rfl rfl (by kernel_rfl) (fun _ _ _ h => h) (Or.inl ⟨by rfl, ?_⟩) hHeld ?_ ?_
  rotate_left
  ·exact Z8
  rotate_left
  ·exact Z0
  refine pure_ (i := 15) (N := some 63) (v := ?_) (a' := ?_) (bl 31 65535) rfl rfl (by kernel_rfl) (fun _ _ _ h => h) (Or.inl ⟨by rfl, ?_⟩) ?_ ?_
  rotate_left
  ·exact Z4
  rotate_left
  ·exact Z0
  refine pure_ (i := 16) (N := some 64) (v := ?_) (a' := ?_) (bl 31 131071) rfl rfl (by kernel_rfl) (fun _ _ _ h => h) (Or.inl ⟨by rfl, ?_⟩) ?_ ?_
  rotate_left
  ·exact Z4
  rotate_left
  ·exact Z0
  refine pure_ (i := 17) (N := some 65) (v := ?_) (a' := ?_) (bl 31 262143) rfl rfl (by kernel_rfl) (fun _ _ _ h => h) (Or.inl ⟨by rfl, ?_⟩) ?_ ?_
  rotate_left
  ·exact Z4
  rotate_left
  ·exact Z0
  refine pure_ (i := 18) (N := some 66) (v := ?_) (a' := ?_) (bl 31 524287) rfl rfl (by kernel_rfl) (fun _ _ _ h => h) (Or.inl ⟨by rfl, ?_⟩) ?_ ?_
  rotate_left
  ·exact Z4
  rotate_left
  ·exact Z0
  refine pure_ (i := 19) (N := some 67) (v := ?_) (a' := ?_) (bl 31 1048575) rfl rfl (by kernel_rfl) (fun _ _ _ h => h) (Or.inl ⟨by rfl, ?_⟩) ?_ ?_
  rotate_left
  ·exact Z4
  rotate_left
  ·exact Z0
  refine pure_ (i := 20) (N := some 68) (v := ?_) (a' := ?_) (bl 31 2097151) rfl rfl (by kernel_rfl) (fun _ _ _ h => h) (Or.inl ⟨by rfl, ?_⟩) ?_ ?_
  rotate_left
  ·exact Z4
  rotate_left
  ·exact Z0
  refine pure_ (i := 21) (N := some 69) (v := ?_) (a' := ?_) (bl 31 4194303) rfl rfl (by kernel_rfl) (fun _ _ _ h => h) (Or.inl ⟨by rfl, ?_⟩) ?_ ?_
  rotate_left
  ·exact Z4
  rotate_left
  ·exact Z0
  refine pure_ (i := 23) (N := some 71) (v := ?_) (a' := ?_) (bl 31 12582911) rfl rfl (by kernel_rfl) (fun _ _ _ h => h) (Or.inl ⟨by rfl, ?_⟩) ?_ ?_
  rotate_left
  ·exact Z4
  rotate_left
  ·exact Z0
  refine pure_ (i := 24) (N := some 72) (v := ?_) (a' := ?_) (bl 31 29360127) rfl rfl (by kernel_rfl) (fun _ _ _ h => h) (Or.inl ⟨by rfl, ?_⟩) ?_ ?_
  rotate_left
  ·exact Z4
  rotate_left
  ·exact Z0
  refine pure_ (i := 25) (N := some 73) (v := ?_) (a' := ?_) (bl 31 62914559) rfl rfl (by kernel_rfl) (fun _ _ _ h => h) (Or.inl ⟨by rfl, ?_⟩) ?_ ?_
  rotate_left
  ·exact Z4
  rotate_left
  ·exact Z0
  refine take_ (i := 22) (N := some 70) (v := ?_) (a' := ?_) (bl 31 67108863) rfl rfl (by kernel_rfl) (fun _ _ _ h => h) (Or.inl ⟨by rfl, ?_⟩) hHeld ?_ ?_
  rotate_left
  ·exact Z8
  rotate_left
  ·exact Z0
  refine take_ (i := 26) (N := some 74) (v := ?_) (a' := ?_) (bl 31 134217727) rfl rfl (by kernel_rfl) (fun _ _ _ h => h) (Or.inl ⟨by rfl, ?_⟩) hHeld ?_ ?_
  rotate_left
  ·exact Z8
  rotate_left
  ·exact Z0
  refine take_ (i := 27) (N := some 75) (v := ?_) (a' := ?_) (bl 31 268435455) rfl rfl (by kernel_rfl) (fun _ _ _ h => h) (Or.inl ⟨by rfl, ?_⟩) hHeld ?_ ?_
  rotate_left
  ·exact Z8
  rotate_left
  ·exact Z0
  refine one_ (i := 28) (N := some 76) (bl 31 536870911) rfl rfl (by kernel_rfl) (by decide) (fun K hK => ?_)
  refine goes_ Tryd.func94 (by kernel_rfl) rfl #[.string ⟨#[43, 45]⟩, .int .u8 ((st.s[st.at_]'hlt).toNat : Int)] (by rfl) rfl rfl Z23 ?_
  with_reducible refine (Tryd.strings_IndexByte _ _ _).mono ?_
  rintro e w9 ⟨rfl, rfl⟩
  refine ⟨_, rfl, ?_⟩
  refine hK.out _ _ ⟨hHeld.1, hHeld.2⟩ (fun hHeld => ?_)
  clear hK K
  refine norm_ (a' := ?_) ?_ ?_
  rotate_left
  ·show Act.put _ (some 76) _ = _
   simp only [Act.put, sA_, s0_, s1_, i64_w, i32_w]
   rfl
  refine pure_ (i := 29) (N := some 77) (v := ?_) (a' := ?_) (bl 31 1073741823) rfl rfl (by kernel_rfl) (fun _ _ _ h => h) (Or.inl ⟨by rfl, ?_⟩) ?_ ?_
  rotate_left
  ·exact Z4
  rotate_left
  ·exact Z0
  refine pure_ (i := 30) (N := some 78) (v := ?_) (a' := ?_) (bl 31 2147483647) rfl rfl (by kernel_rfl) (fun _ _ _ h => h) (Or.inl ⟨by rfl, ?_⟩) ?_ ?_
  rotate_left
  ·exact Z4
  rotate_left
  ·exact Z0
  refine done_ (by kernel_rfl) ?_
  clear hHeld
  have HR3 := Aside0.mk (Rd.drew (HR2.out.setAt ((st.at_ : Int) + 1) (st.at_ + 1) (by omega)))
  have HB3 := Aside0.mk (below_drew (HB2.out.setCell (p := ⟨R, 1, none⟩) (Nat.le_refl R) (.int .i64 ((st.at_ : Int) + 1))))
  have hd0 := HR3.out.c0
  have hd1 := HR3.out.c1
  replace hd1 := hd1.trans (show _ = some (Value.int .i64 ((st.at_ : Int) + 1)) by simp)
  have hx1 : (pl : Int) + 1 ≤ (st.at_ : Int) + 1 := by omega
  have hx2 : (st.at_ : Int) + 1 ≤ (st.s.size : Int) := by omega
  have hx3 : ((pl : Int) + 1).toNat = pl + 1 := by omega
  have hx4 : ((st.at_ : Int) + 1).toNat = st.at_ + 1 := by omega
  have hx5 : (0 : Int) ≤ (pl : Int) + 1 := by omega
  have hx6 : wrap64 ((pl : Int) + 1) = (pl : Int) + 1 := by unfold wrap64; omega
  go_wp2_with (fail)
  refine start_ (n := 14) (S := fun w' => w'.cell? ⟨R, 0, none⟩ = some (.string st.s) ∧ w'.cell? ⟨R, 1, none⟩ = some (.int .i64 ((st.at_ : Int) + 1))) (ds := [13]) (bl 14 0) (by kernel_rfl) rfl (by kernel_rfl) ⟨hd0, hd1⟩ (fun hHeld => ?_)
  refine pure_ (i := 0) (N := some 86) (v := ?_) (a' := ?_) (bl 14 1) rfl rfl (by kernel_rfl) (fun _ _ _ h => h) (Or.inl ⟨by rfl, ?_⟩) ?_ ?_
  rotate_left
  ·exact Z4
  rotate_left
  ·exact Z0
  refine pure_ (i := 1) (N := some 87) (v := ?_) (a' := ?_) (bl 14 3) rfl rfl (by kernel_rfl) (fun _ _ _ h => h) (Or.inl ⟨by rfl, ?_⟩) ?_ ?_
  rotate_left
  ·exact Z4
  rotate_left
  ·exact Z0
  refine pure_ (i := 2) (N := some 88) (v := ?_) (a' := ?_) (bl 14 7) rfl rfl (by kernel_rfl) (fun _ _ _ h => h) (Or.inl ⟨by rfl, ?_⟩) ?_ ?_
  rotate_left
  ·exact Z4
  rotate_left
  ·exact Z0
  refine pure_ (i := 3) (N := some 89) (v := ?_) (a' := ?_) (bl 14 15) rfl rfl (by kernel_rfl) (fun _ _ _ h => h) (Or.inl ⟨by rfl, ?_⟩) ?_ ?_
  rotate_left
  ·exact Z4
  rotate_left
  ·exact Z0
  refine pure_ (i := 5) (N := some 91) (v := ?_) (a' := ?_) (bl 14 47) rfl rfl (by kernel_rfl) (fun _ _ _ h => h) (Or.inl ⟨by rfl, ?_⟩) ?_ ?_
  rotate_left
  ·exact Z4
  rotate_left
  ·exact Z0
  refine pure_ (i := 6) (N := some 92) (v := ?_) (a' := ?_) (bl 14 111) rfl rfl (by kernel_rfl) (fun _ _ _ h => h) (Or.inl ⟨by rfl, ?_⟩) ?_ ?_
  rotate_left
  ·exact Z4
  rotate_left
  ·exact Z0
  refine pure_ (i := 7) (N := some 93) (v := ?_) (a' := ?_) (bl 14 239) rfl rfl (by kernel_rfl) (fun _ _ _ h => h) (Or.inl ⟨by rfl, ?_⟩) ?_ ?_
  rotate_left
  ·exact Z4
  rotate_left
  ·exact Z0
  refine pure_ (i := 8) (N := some 94) (v := ?_) (a' := ?_) (bl 14 495) rfl rfl (by kernel_rfl) (fun _ _ _ h => h) (Or.inl ⟨by rfl, ?_⟩) ?_ ?_
  rotate_left
  ·exact Z4
  rotate_left
  ·exact Z0
  refine pure_ (i := 9) (N := some 95) (v := ?_) (a' := ?_) (bl 14 1007) rfl rfl (by kernel_rfl) (fun _ _ _ h => h) (Or.inl ⟨by rfl, ?_⟩) ?_ ?_
  rotate_left
  ·exact Z4
  rotate_left
  ·exact Z0
  refine pure_ (i := 12) (N := some 98) (v := ?_) (a' := ?_) (bl 14 5103) rfl rfl (by kernel_rfl) (fun _ _ _ h => h) (Or.inl ⟨by rfl, ?_⟩) ?_ ?_
  rotate_left
  ·exact Z4
  rotate_left
  ·exact Z0
  refine take_ (i := 4) (N := some 90) (v := ?_) (a' := ?_) (bl 14 5119) rfl rfl (by kernel_rfl) (fun _ _ _ h => h) (Or.inl ⟨by rfl, ?_⟩) hHeld ?_ ?_
  rotate_left
  ·exact Z8
  rotate_left
  ·exact Z0
  refine take_ (i := 10) (N := some 96) (v := ?_) (a' := ?_) (bl 14 6143) rfl rfl (by kernel_rfl) (fun _ _ _ h => h) (Or.inl ⟨by rfl, ?_⟩) hHeld ?_ ?_
  rotate_left
  ·exact Z8
  rotate_left
  ·exact Z0
  refine pure_ (i := 11) (N := some 97) (v := ?_) (a' := ?_) (bl 14 8191) rfl rfl (by kernel_rfl) (fun _ _ _ h => h) (Or.inl ⟨by rfl, ?_⟩) ?_ ?_
  rotate_left
  ·exact Z4
  rotate_left
  ·exact Z0
  refine last_ (i := 13) (N := some 99) (bl 14 16383) rfl rfl (by kernel_rfl) (by decide) (fun K hK => ?_)
  refine goes_ Tryd.func96 (by kernel_rfl) rfl #[.pointer (some ⟨R, 0, none⟩), .int .i64 5, .string (st.s.extract (pl + 1) (st.at_ + 1)), .int .i64 pl] (by rfl) rfl rfl Z23 ?_
  with_reducible refine (HP.out _ (Rd.drew HR3.out)).mono ?_
  rintro e w4 ⟨rfl, hr4, hb4⟩
  refine ⟨_, rfl, ?_⟩
  refine hK.out _ _ ?_
  clear hK K
  refine norm_ (a' := ?_) ?_ ?_
  rotate_left
  ·show Act.put _ (some 99) _ = _
   simp only [Act.put, sA_, s0_, s1_, i64_w, i32_w]
   rfl
  refine done_ (by kernel_rfl) ?_
  go_wp2
  go_end0
  exact ⟨rfl, hr4, HB3.out.trans (below_drew' hb4)⟩
theorem other_walk (R : Nat) (st : RS) (vS vF : Value) (c : UInt8) (pl : Nat) (w : World) (hI : Inv st) (hpl : st.at_ ≤ st.s.size) (hp : pl < st.at_) (h : Rd R w st vS vF) (hsc : (lastSec st.secs).f2 ≤ pl) :
  Calls Tryd.prog 99 #[.pointer (some ⟨R, 0, none⟩), .int .u8 c.toNat, .int .i64 pl] w (Res R w (otherM c pl st)) := by
 have hp' : pl ≤ st.at_ := Nat.le_of_lt hp
 unfold otherM
 by_cases hb : bareB c = true
 ·rw [if_pos hb]; exact other_bare R st vS vF c pl w hI hpl hp' hb h
 ·rw [if_neg hb]
  have hb' : bareB c = false := by simpa using hb
  by_cases hk : 0 < singleK c.toNat
  ·rw [if_pos hk]; exact other_single R st vS vF c pl w hI hpl hp' hb' hk h
  ·rw [if_neg hk]
   by_cases hg : genB st.s pl = true
   ·rw [if_pos hg]; exact other_general R st vS vF c pl w hI hpl hp' hb' hk hg hsc h
   ·rw [if_neg hg]
    have hg' : genB st.s pl = false := by simpa using hg
    unfold expB
    by_cases h69 : c = 69
    ·have e69 : (c == UInt8.ofNat 69) = true := by subst h69; rfl
     by_cases hlt : st.at_ < st.s.size
     ·rw [dif_pos hlt, show (c == 69) = true from e69, Bool.true_or, Bool.true_and]
      by_cases hpm : pmB (st.s[st.at_]'hlt) = true
      ·rw [if_pos hpm]; exact other_E_exp R st vS vF c pl w hI hpl hp' hb' hk hg' e69 hlt hpm h
      ·rw [if_neg hpm]; exact other_E_nopm R st vS vF c pl w hI hpl hp' hb' hk hg' e69 hlt (by simpa using hpm) h
     ·rw [dif_neg hlt, Bool.and_false, if_neg (by simp)]; exact other_E_nolt R st vS vF c pl w hI hpl hp' hb' hk hg' e69 hlt h
    ·have e69 : (c == UInt8.ofNat 69) = false := beq_eq_false_iff_ne.mpr h69
     by_cases h101 : c = 101
     ·have e101 : (c == UInt8.ofNat 101) = true := by subst h101; rfl
      by_cases hlt : st.at_ < st.s.size
      ·rw [dif_pos hlt, show (c == 101) = true from e101, Bool.or_true, Bool.true_and]
       by_cases hpm : pmB (st.s[st.at_]'hlt) = true
       ·rw [if_pos hpm]; exact other_e_exp R st vS vF c pl w hI hpl hp' hb' hk hg' e69 e101 hlt hpm h
       ·rw [if_neg hpm]; exact other_e_nopm R st vS vF c pl w hI hpl hp' hb' hk hg' e69 e101 hlt (by simpa using hpm) h
      ·rw [dif_neg hlt, Bool.and_false, if_neg (by simp)]; exact other_e_nolt R st vS vF c pl w hI hpl hp' hb' hk hg' e69 e101 hlt h
     ·have e101 : (c == UInt8.ofNat 101) = false := beq_eq_false_iff_ne.mpr h101
      rw [show (c == 69) = false from e69, show (c == 101) = false from e101, Bool.or_false, Bool.false_and, if_neg (by simp)]
      exact other_no_panic R st vS vF c pl w hI hpl hp' hb' hk hg' e69 e101 h
end Go.Proofs.YtmbhjogohfcjgaaDoor.P
