/- The walk of reader.rune1. -/
import Derived.Test.YtmbhjogohfcjgaaDoorPq2
namespace Go.Proofs.YtmbhjogohfcjgaaDoor.P
open Go.RowKit Go.Proofs.YtmbhjogohfcjgaaDoorW.PrintWords Go.Proofs.YtmbhjogohfcjgaaDoorW.PrintLast Go.Proofs.YtmbhjogohfcjgaaDoorW.PrintMore
set_option linter.unusedVariables false
set_option linter.unusedSimpArgs false
theorem Rd.drew {R : Nat} {w : World} {st : RS} {vS vF : Value} (h : Rd R w st vS vF) : Rd R w.drew st vS vF := ⟨h.blk, Kd.S_drew h.hS, Kd.R_below h.hF (below_drew (Below.refl _ _))⟩
theorem decode_le (s : ByteArray) : (Lib.decodeGo s).2 ≤ s.size := by
 unfold Lib.decodeGo
 split
 ·omega
 ·rename_i h
  rw [Lib.decode_at]
  unfold Lib.decodeN
  repeat' split
  all_goals (simp only; omega)
theorem extract_size (s : ByteArray) (p : Nat) (h : p ≤ s.size) : (s.extract p s.size).size = s.size - p := by rw [ByteArray.size_extract]; omega
def decAt (s : ByteArray) (p : Nat) : Nat × Nat := Lib.decodeGo (s.extract p s.size)
theorem decAt_le (s : ByteArray) (p : Nat) (h : p ≤ s.size) : p + (decAt s p).2 ≤ s.size := by
 have h1 := decode_le (s.extract p s.size)
 rw [extract_size s p h] at h1
 unfold decAt
 omega
def badAt (s : ByteArray) (p : Nat) : Bool := (decAt s p).2 == 0 || ((decAt s p).1 == 65533 && (decAt s p).2 == 1)
set_option maxRecDepth 100000 in
set_option maxHeartbeats 4000000 in
theorem rune1_panic (R : Nat) (st : RS) (vS vF : Value) (pl : Int) (w : World) (hGL : GL w) (hs : st.s.size ≤ 2000) (ha : st.at_ ≤ st.s.size) (hbad : badAt st.s st.at_ = true) (h : Rd R w st vS vF) :
  Calls Tryd.prog 97 #[.pointer (some ⟨R, 0, none⟩), .int .i64 pl] w fun e w' => e = fault 12 pl ∧ Below w.heap.size w w' := by
 have hc0 : w.cell? ⟨R, 0, none⟩ = some (.string st.s) := (blk_cell h.blk 0).trans rfl
 have hc1 : w.cell? ⟨R, 1, none⟩ = some (.int .i64 st.at_) := (blk_cell h.blk 1).trans rfl
 have hpn : ∀ (t : TypeId) (v : Value) (w : World), (Instr.panic (.iface t v)).run Tryd.prog w = .halt (.panic (.iface t v)) w := fun _ _ _ => rfl
 have HD := Aside0.mk (fun W (hW : Below w.heap.size w W) => utf8_DecodeRuneInString.calls_any (st.s.extract st.at_ st.s.size) W (hGL.below hW))
 have hle := decAt_le st.s st.at_ ha
 have HBAD := Aside0.mk hbad
 rw [show Lib.decodeGo (st.s.extract st.at_ st.s.size) = decAt st.s st.at_ from rfl] at HD
 clear h hGL hbad
 have hi0 : (0 : Int) ≤ (st.at_ : Int) := by omega
 have hi1 : (st.at_ : Int) ≤ (st.s.size : Int) := by omega
 go_enter Tryd.func97, Tryd.ntmps97
 go_wp2
 refine start_ (n := 15) (S := fun w' => w'.cell? ⟨R, 0, none⟩ = some (.string st.s) ∧ w'.cell? ⟨R, 1, none⟩ = some (.int .i64 st.at_)) (ds := []) (bl 15 0) (by kernel_rfl) rfl (by kernel_rfl) ⟨hc0, hc1⟩ (fun hHeld => ?_)
 refine pure_ (i := 0) (N := some 8) (v := ?_) (a' := ?_) (bl 15 1) rfl rfl (by kernel_rfl) (fun _ _ _ h => h) (Or.inl ⟨by rfl, ?_⟩) ?_ ?_
 rotate_left
 ·exact Z4
 rotate_left
 ·exact Z0
 refine pure_ (i := 1) (N := some 9) (v := ?_) (a' := ?_) (bl 15 3) rfl rfl (by kernel_rfl) (fun _ _ _ h => h) (Or.inl ⟨by rfl, ?_⟩) ?_ ?_
 rotate_left
 ·exact Z4
 rotate_left
 ·exact Z0
 refine pure_ (i := 2) (N := some 10) (v := ?_) (a' := ?_) (bl 15 7) rfl rfl (by kernel_rfl) (fun _ _ _ h => h) (Or.inl ⟨by rfl, ?_⟩) ?_ ?_
 rotate_left
 ·exact Z4
 rotate_left
 ·exact Z0
 refine pure_ (i := 4) (N := some 12) (v := ?_) (a' := ?_) (bl 15 23) rfl rfl (by kernel_rfl) (fun _ _ _ h => h) (Or.inl ⟨by rfl, ?_⟩) ?_ ?_
 rotate_left
 ·exact Z4
 rotate_left
 ·exact Z0
 refine pure_ (i := 5) (N := some 13) (v := ?_) (a' := ?_) (bl 15 55) rfl rfl (by kernel_rfl) (fun _ _ _ h => h) (Or.inl ⟨by rfl, ?_⟩) ?_ ?_
 rotate_left
 ·exact Z4
 rotate_left
 ·exact Z0
 refine pure_ (i := 6) (N := some 14) (v := ?_) (a' := ?_) (bl 15 119) rfl rfl (by kernel_rfl) (fun _ _ _ h => h) (Or.inl ⟨by rfl, ?_⟩) ?_ ?_
 rotate_left
 ·exact Z4
 rotate_left
 ·exact Z0
 refine take_ (i := 3) (N := some 11) (v := ?_) (a' := ?_) (bl 15 127) rfl rfl (by kernel_rfl) (fun _ _ _ h => h) (Or.inl ⟨by rfl, ?_⟩) hHeld ?_ ?_
 rotate_left
 ·exact Z8
 rotate_left
 ·exact Z0
 refine take_ (i := 7) (N := some 15) (v := ?_) (a' := ?_) (bl 15 255) rfl rfl (by kernel_rfl) (fun _ _ _ h => h) (Or.inl ⟨by rfl, ?_⟩) hHeld ?_ ?_
 rotate_left
 ·exact Z8
 rotate_left
 ·exact Z0
 refine pure_ (i := 8) (N := some 16) (v := ?_) (a' := ?_) (bl 15 511) rfl rfl (by kernel_rfl) (fun _ _ _ h => h) (Or.inl ⟨by rfl, ?_⟩) ?_ ?_
 rotate_left
 ·exact Z4
 rotate_left
 ·exact Z0
 refine one_ (i := 9) (N := some 17) (bl 15 1023) rfl rfl (by kernel_rfl) (by decide) (fun K hK => ?_)
 refine goes_ Tryd.func102 (by kernel_rfl) rfl #[.string (st.s.extract st.at_ st.s.size)] (by rfl) rfl rfl Z23 ?_
 with_reducible refine (HD.out _ (below_drew (Below.refl _ _))).mono ?_
 rintro e w2 ⟨rfl, hb2⟩
 refine ⟨_, rfl, ?_⟩
 have HB2 := Aside0.mk ((below_drew (Below.refl w.heap.size w)).trans hb2)
 refine hK.out _ _ ⟨(HB2.out.cell (World.block_lt_of_cell? w _ hc0)).trans hc0, (HB2.out.cell (World.block_lt_of_cell? w _ hc1)).trans hc1⟩ (fun hHeld => ?_)
 clear hK K
 refine norm_ (a' := ?_) ?_ ?_
 rotate_left
 ·show Act.put _ (some 17) _ = _
  simp only [Act.put, sA_, s0_, s1_, i64_w, i32_w]
  rfl
 refine pure_ (i := 10) (N := some 7) (v := ?_) (a' := ?_) (bl 15 2047) rfl rfl (by kernel_rfl) (fun _ _ _ h => h) (Or.inl ⟨by rfl, ?_⟩) ?_ ?_
 rotate_left
 ·exact Z4
 rotate_left
 ·exact Z0
 refine pure_ (i := 11) (N := some 18) (v := ?_) (a' := ?_) (bl 15 4095) rfl rfl (by kernel_rfl) (fun _ _ _ h => h) (Or.inl ⟨by rfl, ?_⟩) ?_ ?_
 rotate_left
 ·exact Z4
 rotate_left
 ·exact Z0
 refine pure_ (i := 12) (N := some 19) (v := ?_) (a' := ?_) (bl 15 8191) rfl rfl (by kernel_rfl) (fun _ _ _ h => h) (Or.inl ⟨by rfl, ?_⟩) ?_ ?_
 rotate_left
 ·exact Z4
 rotate_left
 ·exact Z0
 refine pure_ (i := 13) (N := some 5) (v := ?_) (a' := ?_) (bl 15 16383) rfl rfl (by kernel_rfl) (fun _ _ _ h => h) (Or.inl ⟨by rfl, ?_⟩) ?_ ?_
 rotate_left
 ·exact Z4
 rotate_left
 ·exact Z0
 refine pure_ (i := 14) (N := some 6) (v := ?_) (a' := ?_) (bl 15 32767) rfl rfl (by kernel_rfl) (fun _ _ _ h => h) (Or.inl ⟨by rfl, ?_⟩) ?_ ?_
 rotate_left
 ·exact Z4
 rotate_left
 ·exact Z0
 refine done_ (by kernel_rfl) ?_
 clear hc0 hc1
 rw [badAt] at HBAD
 generalize (decAt st.s st.at_).1 = c at *
 generalize (decAt st.s st.at_).2 = n at *
 by_cases n0 : n = 0
 ·have n0b : ((n : Int) == 0) = true := beq_iff_eq.mpr (by omega)
  clear n0
  go_wp2
  exact ⟨rfl, rfl, HB2.out⟩
 ·have n0b : ((n : Int) == 0) = false := beq_eq_false_iff_ne.mpr (by omega)
  have hb := HBAD.out
  have hn0 : (n == 0) = false := beq_eq_false_iff_ne.mpr n0
  rw [hn0, Bool.false_or, Bool.and_eq_true, beq_iff_eq, beq_iff_eq] at hb
  obtain ⟨hb1, hb2⟩ := hb
  have c1b : ((c : Int) == 65533) = true := beq_iff_eq.mpr (by omega)
  have n1b : ((n : Int) == 1) = true := beq_iff_eq.mpr (by omega)
  clear n0 hn0 hb1 hb2
  go_wp2
  exact ⟨rfl, rfl, HB2.out⟩
set_option maxRecDepth 100000 in
set_option maxHeartbeats 4000000 in
theorem rune1_ok (R : Nat) (st : RS) (vS vF : Value) (pl : Int) (w : World) (hGL : GL w) (hs : st.s.size ≤ 2000) (ha : st.at_ ≤ st.s.size) (hbad : badAt st.s st.at_ = false) (h : Rd R w st vS vF) :
  Calls Tryd.prog 97 #[.pointer (some ⟨R, 0, none⟩), .int .i64 pl] w fun e w' => e = .returned (.string (st.s.extract st.at_ (st.at_ + (decAt st.s st.at_).2))) ∧ Rd R w' { st with at_ := st.at_ + (decAt st.s st.at_).2 } vS vF ∧ Below R w w' := by
 have hc0 : w.cell? ⟨R, 0, none⟩ = some (.string st.s) := (blk_cell h.blk 0).trans rfl
 have hc1 : w.cell? ⟨R, 1, none⟩ = some (.int .i64 st.at_) := (blk_cell h.blk 1).trans rfl
 have hpn : ∀ (t : TypeId) (v : Value) (w : World), (Instr.panic (.iface t v)).run Tryd.prog w = .halt (.panic (.iface t v)) w := fun _ _ _ => rfl
 have HD := Aside0.mk (fun W (hW : Below w.heap.size w W) => utf8_DecodeRuneInString.calls_any (st.s.extract st.at_ st.s.size) W (hGL.below hW))
 have hle := decAt_le st.s st.at_ ha
 have HBAD := Aside0.mk hbad
 rw [show Lib.decodeGo (st.s.extract st.at_ st.s.size) = decAt st.s st.at_ from rfl] at HD
 have HH := Aside0.mk h
 clear h hGL hbad
 have hi0 : (0 : Int) ≤ (st.at_ : Int) := by omega
 have hi1 : (st.at_ : Int) ≤ (st.s.size : Int) := by omega
 go_enter Tryd.func97, Tryd.ntmps97
 go_wp2
 refine start_ (n := 15) (S := fun w' => w'.cell? ⟨R, 0, none⟩ = some (.string st.s) ∧ w'.cell? ⟨R, 1, none⟩ = some (.int .i64 st.at_)) (ds := []) (bl 15 0) (by kernel_rfl) rfl (by kernel_rfl) ⟨hc0, hc1⟩ (fun hHeld => ?_)
 refine pure_ (i := 0) (N := some 8) (v := ?_) (a' := ?_) (bl 15 1) rfl rfl (by kernel_rfl) (fun _ _ _ h => h) (Or.inl ⟨by rfl, ?_⟩) ?_ ?_
 rotate_left
 ·exact Z4
 rotate_left
 ·exact Z0
 refine pure_ (i := 1) (N := some 9) (v := ?_) (a' := ?_) (bl 15 3) rfl rfl (by kernel_rfl) (fun _ _ _ h => h) (Or.inl ⟨by rfl, ?_⟩) ?_ ?_
 rotate_left
 ·exact Z4
 rotate_left
 ·exact Z0
 refine pure_ (i := 2) (N := some 10) (v := ?_) (a' := ?_) (bl 15 7) rfl rfl (by kernel_rfl) (fun _ _ _ h => h) (Or.inl ⟨by rfl, ?_⟩) ?_ ?_
 rotate_left
 ·exact Z4
 rotate_left
 ·exact Z0
 refine pure_ (i := 4) (N := some 12) (v := ?_) (a' := ?_) (bl 15 23) rfl rfl (by kernel_rfl) (fun _ _ _ h => h) (Or.inl ⟨by rfl, ?_⟩) ?_ ?_
 rotate_left
 ·exact Z4
 rotate_left
 ·exact Z0
 refine pure_ (i := 5) (N := some 13) (v := ?_) (a' := ?_) (bl 15 55) rfl rfl (by kernel_rfl) (fun _ _ _ h => h) (Or.inl ⟨by rfl, ?_⟩) ?_ ?_
 rotate_left
 ·exact Z4
 rotate_left
 ·exact Z0
 refine pure_ (i := 6) (N := some 14) (v := ?_) (a' := ?_) (bl 15 119) rfl rfl (by kernel_rfl) (fun _ _ _ h => h) (Or.inl ⟨by rfl, ?_⟩) ?_ ?_
 rotate_left
 ·exact Z4
 rotate_left
 ·exact Z0
 refine take_ (i := 3) (N := some 11) (v := ?_) (a' := ?_) (bl 15 127) rfl rfl (by kernel_rfl) (fun _ _ _ h => h) (Or.inl ⟨by rfl, ?_⟩) hHeld ?_ ?_
 rotate_left
 ·exact Z8
 rotate_left
 ·exact Z0
 refine take_ (i := 7) (N := some 15) (v := ?_) (a' := ?_) (bl 15 255) rfl rfl (by kernel_rfl) (fun _ _ _ h => h) (Or.inl ⟨by rfl, ?_⟩) hHeld ?_ ?_
 rotate_left
 ·exact Z8
 rotate_left
 ·exact Z0
 refine pure_ (i := 8) (N := some 16) (v := ?_) (a' := ?_) (bl 15 511) rfl rfl (by kernel_rfl) (fun _ _ _ h => h) (Or.inl ⟨by rfl, ?_⟩) ?_ ?_
 rotate_left
 ·exact Z4
 rotate_left
 ·exact Z0
 refine one_ (i := 9) (N := some 17) (bl 15 1023) rfl rfl (by kernel_rfl) (by decide) (fun K hK => ?_)
 refine goes_ Tryd.func102 (by kernel_rfl) rfl #[.string (st.s.extract st.at_ st.s.size)] (by rfl) rfl rfl Z23 ?_
 with_reducible refine (HD.out _ (below_drew (Below.refl _ _))).mono ?_
 rintro e w2 ⟨rfl, hb2⟩
 refine ⟨_, rfl, ?_⟩
 have HB2 := Aside0.mk ((below_drew (Below.refl w.heap.size w)).trans hb2)
 refine hK.out _ _ ⟨(HB2.out.cell (World.block_lt_of_cell? w _ hc0)).trans hc0, (HB2.out.cell (World.block_lt_of_cell? w _ hc1)).trans hc1⟩ (fun hHeld => ?_)
 clear hK K
 refine norm_ (a' := ?_) ?_ ?_
 rotate_left
 ·show Act.put _ (some 17) _ = _
  simp only [Act.put, sA_, s0_, s1_, i64_w, i32_w]
  rfl
 refine pure_ (i := 10) (N := some 7) (v := ?_) (a' := ?_) (bl 15 2047) rfl rfl (by kernel_rfl) (fun _ _ _ h => h) (Or.inl ⟨by rfl, ?_⟩) ?_ ?_
 rotate_left
 ·exact Z4
 rotate_left
 ·exact Z0
 refine pure_ (i := 11) (N := some 18) (v := ?_) (a' := ?_) (bl 15 4095) rfl rfl (by kernel_rfl) (fun _ _ _ h => h) (Or.inl ⟨by rfl, ?_⟩) ?_ ?_
 rotate_left
 ·exact Z4
 rotate_left
 ·exact Z0
 refine pure_ (i := 12) (N := some 19) (v := ?_) (a' := ?_) (bl 15 8191) rfl rfl (by kernel_rfl) (fun _ _ _ h => h) (Or.inl ⟨by rfl, ?_⟩) ?_ ?_
 rotate_left
 ·exact Z4
 rotate_left
 ·exact Z0
 refine pure_ (i := 13) (N := some 5) (v := ?_) (a' := ?_) (bl 15 16383) rfl rfl (by kernel_rfl) (fun _ _ _ h => h) (Or.inl ⟨by rfl, ?_⟩) ?_ ?_
 rotate_left
 ·exact Z4
 rotate_left
 ·exact Z0
 refine pure_ (i := 14) (N := some 6) (v := ?_) (a' := ?_) (bl 15 32767) rfl rfl (by kernel_rfl) (fun _ _ _ h => h) (Or.inl ⟨by rfl, ?_⟩) ?_ ?_
 rotate_left
 ·exact Z4
 rotate_left
 ·exact Z0
 refine done_ (by kernel_rfl) ?_
 have HR2 := Aside0.mk (Rd.below HH.out HB2.out)
 have hRw := blk_lt HH.out.blk
 clear hc0 hc1 HH
 rw [badAt] at HBAD
 generalize (decAt st.s st.at_).1 = c at *
 generalize hn : (decAt st.s st.at_).2 = n at *
 have HN := Aside0.mk hn
 clear hn
 have n0 : ¬ n = 0 := fun h0 => by have hb := HBAD.out; rw [h0] at hb; simp at hb
 have n0b : ((n : Int) == 0) = false := beq_eq_false_iff_ne.mpr (by omega)
 have hcn : ¬ (c = 65533 ∧ n = 1) := fun hb => by have h9 := HBAD.out; rw [hb.1, hb.2] at h9; simp at h9
 clear n0
 have hq1 : w2.cell? ⟨R, 1, none⟩ = some (.int .i64 st.at_) := (blk_cell HR2.out.blk 1).trans rfl
 have hf1 := blk_frozen HR2.out.blk 1
 have b3 := blk_set HR2.out.blk 1 (.int .i64 ((st.at_ : Int) + (n : Int)))
 have hr3 : Rd R (w2.setCell ⟨R, 1, none⟩ (.int .i64 ((st.at_ : Int) + (n : Int)))) { st with at_ := st.at_ + n } vS vF := ⟨by rw [b3]; simp, Kd.S_set HR2.out.hS HR2.out.blk (by decide) 1 _, Kd.R_set HR2.out.hF HR2.out.blk (by decide) 1 _⟩
 have HR3 := Aside0.mk hr3
 have HB3 := Aside0.mk ((HB2.out.mono (Nat.le_of_lt hRw)).setCell (p := ⟨R, 1, none⟩) (Nat.le_refl R) (.int .i64 ((st.at_ : Int) + (n : Int))))
 have hd0 : (w2.setCell ⟨R, 1, none⟩ (.int .i64 ((st.at_ : Int) + (n : Int)))).cell? ⟨R, 0, none⟩ = some (.string st.s) := (blk_cell hr3.blk 0).trans rfl
 have hd1 : (w2.setCell ⟨R, 1, none⟩ (.int .i64 ((st.at_ : Int) + (n : Int)))).cell? ⟨R, 1, none⟩ = some (.int .i64 ((st.at_ : Int) + (n : Int))) := (blk_cell hr3.blk 1).trans (by simp)
 clear hr3 b3
 have hx1 : (st.at_ : Int) ≤ (st.at_ : Int) + (n : Int) := by omega
 have hx2 : (st.at_ : Int) + (n : Int) ≤ (st.s.size : Int) := by omega
 have hx3 : (st.at_ : Int) + (n : Int) - (n : Int) = (st.at_ : Int) := by omega
 have hx4 : (0 : Int) ≤ (st.at_ : Int) + (n : Int) := by omega
 have hx5 : wrap64 (st.at_ : Int) = (st.at_ : Int) := by unfold wrap64; omega
 have hx6 : (((st.at_ : Int) + (n : Int)).toNat) = st.at_ + n := by omega
 by_cases c1 : c = 65533
 ·have c1b : ((c : Int) == 65533) = true := beq_iff_eq.mpr (by omega)
  have n1b : ((n : Int) == 1) = false := beq_eq_false_iff_ne.mpr (fun h9 => hcn ⟨c1, by omega⟩)
  clear c1 hcn
  go_wp2
  refine start_ (n := 16) (S := fun w' => w'.cell? ⟨R, 0, none⟩ = some (.string st.s) ∧ w'.cell? ⟨R, 1, none⟩ = some (.int .i64 ((st.at_ : Int) + (n : Int)))) (ds := []) (bl 16 0) (by kernel_rfl) rfl (by kernel_rfl) ⟨hd0, hd1⟩ (fun hHeld => ?_)
  refine pure_ (i := 0) (N := some 41) (v := ?_) (a' := ?_) (bl 16 1) rfl rfl (by kernel_rfl) (fun _ _ _ h => h) (Or.inl ⟨by rfl, ?_⟩) ?_ ?_
  rotate_left
  ·exact Z4
  rotate_left
  ·exact Z0
  refine pure_ (i := 1) (N := some 42) (v := ?_) (a' := ?_) (bl 16 3) rfl rfl (by kernel_rfl) (fun _ _ _ h => h) (Or.inl ⟨by rfl, ?_⟩) ?_ ?_
  rotate_left
  ·exact Z4
  rotate_left
  ·exact Z0
  refine pure_ (i := 2) (N := some 43) (v := ?_) (a' := ?_) (bl 16 7) rfl rfl (by kernel_rfl) (fun _ _ _ h => h) (Or.inl ⟨by rfl, ?_⟩) ?_ ?_
  rotate_left
  ·exact Z4
  rotate_left
  ·exact Z0
  refine pure_ (i := 4) (N := some 45) (v := ?_) (a' := ?_) (bl 16 23) rfl rfl (by kernel_rfl) (fun _ _ _ h => h) (Or.inl ⟨by rfl, ?_⟩) ?_ ?_
  rotate_left
  ·exact Z4
  rotate_left
  ·exact Z0
  refine pure_ (i := 5) (N := some 46) (v := ?_) (a' := ?_) (bl 16 55) rfl rfl (by kernel_rfl) (fun _ _ _ h => h) (Or.inl ⟨by rfl, ?_⟩) ?_ ?_
  rotate_left
  ·exact Z4
  rotate_left
  ·exact Z0
  refine pure_ (i := 6) (N := some 47) (v := ?_) (a' := ?_) (bl 16 119) rfl rfl (by kernel_rfl) (fun _ _ _ h => h) (Or.inl ⟨by rfl, ?_⟩) ?_ ?_
  rotate_left
  ·exact Z4
  rotate_left
  ·exact Z0
  refine pure_ (i := 8) (N := some 49) (v := ?_) (a' := ?_) (bl 16 375) rfl rfl (by kernel_rfl) (fun _ _ _ h => h) (Or.inl ⟨by rfl, ?_⟩) ?_ ?_
  rotate_left
  ·exact Z4
  rotate_left
  ·exact Z0
  refine pure_ (i := 10) (N := some 51) (v := ?_) (a' := ?_) (bl 16 1399) rfl rfl (by kernel_rfl) (fun _ _ _ h => h) (Or.inl ⟨by rfl, ?_⟩) ?_ ?_
  rotate_left
  ·exact Z4
  rotate_left
  ·exact Z0
  refine pure_ (i := 11) (N := some 52) (v := ?_) (a' := ?_) (bl 16 3447) rfl rfl (by kernel_rfl) (fun _ _ _ h => h) (Or.inl ⟨by rfl, ?_⟩) ?_ ?_
  rotate_left
  ·exact Z4
  rotate_left
  ·exact Z0
  refine pure_ (i := 12) (N := some 53) (v := ?_) (a' := ?_) (bl 16 7543) rfl rfl (by kernel_rfl) (fun _ _ _ h => h) (Or.inl ⟨by rfl, ?_⟩) ?_ ?_
  rotate_left
  ·exact Z4
  rotate_left
  ·exact Z0
  refine take_ (i := 3) (N := some 44) (v := ?_) (a' := ?_) (bl 16 7551) rfl rfl (by kernel_rfl) (fun _ _ _ h => h) (Or.inl ⟨by rfl, ?_⟩) hHeld ?_ ?_
  rotate_left
  ·exact Z8
  rotate_left
  ·exact Z0
  refine take_ (i := 7) (N := some 48) (v := ?_) (a' := ?_) (bl 16 7679) rfl rfl (by kernel_rfl) (fun _ _ _ h => h) (Or.inl ⟨by rfl, ?_⟩) hHeld ?_ ?_
  rotate_left
  ·exact Z8
  rotate_left
  ·exact Z0
  refine pure_ (i := 9) (N := some 50) (v := ?_) (a' := ?_) (bl 16 8191) rfl rfl (by kernel_rfl) (fun _ _ _ h => h) (Or.inl ⟨by rfl, ?_⟩) ?_ ?_
  rotate_left
  ·exact Z4
  rotate_left
  ·exact Z0
  refine take_ (i := 13) (N := some 54) (v := ?_) (a' := ?_) (bl 16 16383) rfl rfl (by kernel_rfl) (fun _ _ _ h => h) (Or.inl ⟨by rfl, ?_⟩) hHeld ?_ ?_
  rotate_left
  ·exact Z8
  rotate_left
  ·exact Z0
  refine pure_ (i := 14) (N := some 55) (v := ?_) (a' := ?_) (bl 16 32767) rfl rfl (by kernel_rfl) (fun _ _ _ h => h) (Or.inl ⟨by rfl, ?_⟩) ?_ ?_
  rotate_left
  ·exact Z4
  rotate_left
  ·exact Z0
  refine pure_ (i := 15) (N := some 4) (v := ?_) (a' := ?_) (bl 16 65535) rfl rfl (by kernel_rfl) (fun _ _ _ h => h) (Or.inl ⟨by rfl, ?_⟩) ?_ ?_
  rotate_left
  ·exact Z4
  rotate_left
  ·exact Z0
  refine done_ (by kernel_rfl) ?_
  go_wp2
  go_ret
  rw [HN.out]
  exact ⟨rfl, Rd.drew HR3.out, below_drew HB3.out⟩
 ·have c1b : ((c : Int) == 65533) = false := beq_eq_false_iff_ne.mpr (by omega)
  clear c1 hcn
  go_wp2
  refine start_ (n := 16) (S := fun w' => w'.cell? ⟨R, 0, none⟩ = some (.string st.s) ∧ w'.cell? ⟨R, 1, none⟩ = some (.int .i64 ((st.at_ : Int) + (n : Int)))) (ds := []) (bl 16 0) (by kernel_rfl) rfl (by kernel_rfl) ⟨hd0, hd1⟩ (fun hHeld => ?_)
  refine pure_ (i := 0) (N := some 41) (v := ?_) (a' := ?_) (bl 16 1) rfl rfl (by kernel_rfl) (fun _ _ _ h => h) (Or.inl ⟨by rfl, ?_⟩) ?_ ?_
  rotate_left
  ·exact Z4
  rotate_left
  ·exact Z0
  refine pure_ (i := 1) (N := some 42) (v := ?_) (a' := ?_) (bl 16 3) rfl rfl (by kernel_rfl) (fun _ _ _ h => h) (Or.inl ⟨by rfl, ?_⟩) ?_ ?_
  rotate_left
  ·exact Z4
  rotate_left
  ·exact Z0
  refine pure_ (i := 2) (N := some 43) (v := ?_) (a' := ?_) (bl 16 7) rfl rfl (by kernel_rfl) (fun _ _ _ h => h) (Or.inl ⟨by rfl, ?_⟩) ?_ ?_
  rotate_left
  ·exact Z4
  rotate_left
  ·exact Z0
  refine pure_ (i := 4) (N := some 45) (v := ?_) (a' := ?_) (bl 16 23) rfl rfl (by kernel_rfl) (fun _ _ _ h => h) (Or.inl ⟨by rfl, ?_⟩) ?_ ?_
  rotate_left
  ·exact Z4
  rotate_left
  ·exact Z0
  refine pure_ (i := 5) (N := some 46) (v := ?_) (a' := ?_) (bl 16 55) rfl rfl (by kernel_rfl) (fun _ _ _ h => h) (Or.inl ⟨by rfl, ?_⟩) ?_ ?_
  rotate_left
  ·exact Z4
  rotate_left
  ·exact Z0
  refine pure_ (i := 6) (N := some 47) (v := ?_) (a' := ?_) (bl 16 119) rfl rfl (by kernel_rfl) (fun _ _ _ h => h) (Or.inl ⟨by rfl, ?_⟩) ?_ ?_
  rotate_left
  ·exact Z4
  rotate_left
  ·exact Z0
  refine pure_ (i := 8) (N := some 49) (v := ?_) (a' := ?_) (bl 16 375) rfl rfl (by kernel_rfl) (fun _ _ _ h => h) (Or.inl ⟨by rfl, ?_⟩) ?_ ?_
  rotate_left
  ·exact Z4
  rotate_left
  ·exact Z0
  refine pure_ (i := 10) (N := some 51) (v := ?_) (a' := ?_) (bl 16 1399) rfl rfl (by kernel_rfl) (fun _ _ _ h => h) (Or.inl ⟨by rfl, ?_⟩) ?_ ?_
  rotate_left
  ·exact Z4
  rotate_left
  ·exact Z0
  refine pure_ (i := 11) (N := some 52) (v := ?_) (a' := ?_) (bl 16 3447) rfl rfl (by kernel_rfl) (fun _ _ _ h => h) (Or.inl ⟨by rfl, ?_⟩) ?_ ?_
  rotate_left
  ·exact Z4
  rotate_left
  ·exact Z0
  refine pure_ (i := 12) (N := some 53) (v := ?_) (a' := ?_) (bl 16 7543) rfl rfl (by kernel_rfl) (fun _ _ _ h => h) (Or.inl ⟨by rfl, ?_⟩) ?_ ?_
  rotate_left
  ·exact Z4
  rotate_left
  ·exact Z0
  refine take_ (i := 3) (N := some 44) (v := ?_) (a' := ?_) (bl 16 7551) rfl rfl (by kernel_rfl) (fun _ _ _ h => h) (Or.inl ⟨by rfl, ?_⟩) hHeld ?_ ?_
  rotate_left
  ·exact Z8
  rotate_left
  ·exact Z0
  refine take_ (i := 7) (N := some 48) (v := ?_) (a' := ?_) (bl 16 7679) rfl rfl (by kernel_rfl) (fun _ _ _ h => h) (Or.inl ⟨by rfl, ?_⟩) hHeld ?_ ?_
  rotate_left
  ·exact Z8
  rotate_left
  ·exact Z0
  refine pure_ (i := 9) (N := some 50) (v := ?_) (a' := ?_) (bl 16 8191) rfl rfl (by kernel_rfl) (fun _ _ _ h => h) (Or.inl ⟨by rfl, ?_⟩) ?_ ?_
  rotate_left
  ·exact Z4
  rotate_left
  ·exact Z0
  refine take_ (i := 13) (N := some 54) (v := ?_) (a' := ?_) (bl 16 16383) rfl rfl (by kernel_rfl) (fun _ _ _ h => h) (Or.inl ⟨by rfl, ?_⟩) hHeld ?_ ?_
  rotate_left
  ·exact Z8
  rotate_left
  ·exact Z0
  refine pure_ (i := 14) (N := some 55) (v := ?_) (a' := ?_) (bl 16 32767) rfl rfl (by kernel_rfl) (fun _ _ _ h => h) (Or.inl ⟨by rfl, ?_⟩) ?_ ?_
  rotate_left
  ·exact Z4
  rotate_left
  ·exact Z0
  refine pure_ (i := 15) (N := some 4) (v := ?_) (a' := ?_) (bl 16 65535) rfl rfl (by kernel_rfl) (fun _ _ _ h => h) (Or.inl ⟨by rfl, ?_⟩) ?_ ?_
  rotate_left
  ·exact Z4
  rotate_left
  ·exact Z0
  refine done_ (by kernel_rfl) ?_
  go_wp2
  go_ret
  rw [HN.out]
  exact ⟨rfl, Rd.drew HR3.out, below_drew HB3.out⟩
end Go.Proofs.YtmbhjogohfcjgaaDoor.P
