/- The walk of reader.comma (written by wip/tools/gencomma.py). -/
import Derived.Test.YtmbhjogohfcjgaaDoorPq3
namespace Go.Proofs.YtmbhjogohfcjgaaDoor.P
open Go.RowKit Go.Proofs.YtmbhjogohfcjgaaDoorW.PrintWords Go.Proofs.YtmbhjogohfcjgaaDoorW.PrintLast Go.Proofs.YtmbhjogohfcjgaaDoorW.PrintMore
set_option linter.unusedVariables false
set_option linter.unusedSimpArgs false
def isDg (b : UInt8) : Bool := b == 48 || b == 35 || b == 63
theorem isDg_ix (b : UInt8) : decide (0 ≤ Lib.indexByte [48, 35, 63] b) = isDg b := by
 unfold isDg
 by_cases h1 : b = 48
 ·subst h1; decide
 ·by_cases h2 : b = 35
  ·subst h2; decide
  ·by_cases h3 : b = 63
   ·subst h3; decide
   ·have e1 : (b == 48) = false := beq_eq_false_iff_ne.mpr h1
    have e2 : (b == 35) = false := beq_eq_false_iff_ne.mpr h2
    have e3 : (b == 63) = false := beq_eq_false_iff_ne.mpr h3
    have f1 : ((48 : UInt8) == b) = false := beq_eq_false_iff_ne.mpr (fun h => h1 h.symm)
    have f2 : ((35 : UInt8) == b) = false := beq_eq_false_iff_ne.mpr (fun h => h2 h.symm)
    have f3 : ((63 : UInt8) == b) = false := beq_eq_false_iff_ne.mpr (fun h => h3 h.symm)
    simp [Lib.indexByte, e1, e2, e3, f1, f2, f3]
def setLast (l : List S62) (s : S62) : List S62 := l.set (l.length - 1) s
set_option maxRecDepth 100000 in
set_option maxHeartbeats 8000000 in
theorem comma_nolt_closed (R : Nat) (st : RS) (vS vF : Value) (pl : Nat) (w : World) (hs : st.s.size ≤ 2000) (ha : st.at_ ≤ st.s.size) (hlt : ¬ st.at_ < st.s.size) (hop : st.open_ = false) (h : Rd R w st vS vF) :
  Calls Tryd.prog 98 #[.pointer (some ⟨R, 0, none⟩), .int .i64 pl] w (fun e w' => e = fault 12 pl ∧ Below w.heap.size w w') := by
 have hc0 : w.cell? ⟨R, 0, none⟩ = some (.string st.s) := (blk_cell h.blk 0).trans rfl
 have hc1 : w.cell? ⟨R, 1, none⟩ = some (.int .i64 st.at_) := (blk_cell h.blk 1).trans rfl
 have hc5 : w.cell? ⟨R, 5, none⟩ = some (.bool false) := by rw [← hop]; exact (blk_cell h.blk 5).trans rfl
 have HH := Aside0.mk h
 have HOP := Aside0.mk hop
 have hi0 : (0 : Int) ≤ (st.at_ : Int) := by omega
 have hltb : decide ((st.at_ : Int) < (st.s.size : Int)) = false := decide_eq_false (by omega)
 have hpn : ∀ (t : TypeId) (v : Value) (w : World), (Instr.panic (.iface t v)).run Tryd.prog w = .halt (.panic (.iface t v)) w := fun _ _ _ => rfl
 clear h hop
 go_enter Tryd.func98, Tryd.ntmps98
 go_wp2
 refine start_ (n := 24) (S := fun w' => w'.cell? ⟨R, 0, none⟩ = some (.string st.s) ∧ w'.cell? ⟨R, 1, none⟩ = some (.int .i64 st.at_)) (ds := []) (bl 24 0) (by kernel_rfl) rfl (by kernel_rfl) ⟨hc0, hc1⟩ (fun hHeld => ?_)
 refine pure_ (i := 0) (N := some 5) (v := ?_) (a' := ?_) (bl 24 1) rfl rfl (by kernel_rfl) (fun _ _ _ h => h) (Or.inl ⟨by rfl, ?_⟩) ?_ ?_
 rotate_left
 ·exact Z4
 rotate_left
 ·exact Z0
 refine pure_ (i := 1) (N := some 6) (v := ?_) (a' := ?_) (bl 24 3) rfl rfl (by kernel_rfl) (fun _ _ _ h => h) (Or.inl ⟨by rfl, ?_⟩) ?_ ?_
 rotate_left
 ·exact Z4
 rotate_left
 ·exact Z0
 refine pure_ (i := 2) (N := some 7) (v := ?_) (a' := ?_) (bl 24 7) rfl rfl (by kernel_rfl) (fun _ _ _ h => h) (Or.inl ⟨by rfl, ?_⟩) ?_ ?_
 rotate_left
 ·exact Z4
 rotate_left
 ·exact Z0
 refine pure_ (i := 4) (N := some 9) (v := ?_) (a' := ?_) (bl 24 23) rfl rfl (by kernel_rfl) (fun _ _ _ h => h) (Or.inl ⟨by rfl, ?_⟩) ?_ ?_
 rotate_left
 ·exact Z4
 rotate_left
 ·exact Z0
 refine pure_ (i := 5) (N := some 10) (v := ?_) (a' := ?_) (bl 24 55) rfl rfl (by kernel_rfl) (fun _ _ _ h => h) (Or.inl ⟨by rfl, ?_⟩) ?_ ?_
 rotate_left
 ·exact Z4
 rotate_left
 ·exact Z0
 refine pure_ (i := 6) (N := some 11) (v := ?_) (a' := ?_) (bl 24 119) rfl rfl (by kernel_rfl) (fun _ _ _ h => h) (Or.inl ⟨by rfl, ?_⟩) ?_ ?_
 rotate_left
 ·exact Z4
 rotate_left
 ·exact Z0
 refine take_ (i := 3) (N := some 8) (v := ?_) (a' := ?_) (bl 24 127) rfl rfl (by kernel_rfl) (fun _ _ _ h => h) (Or.inl ⟨by rfl, ?_⟩) hHeld ?_ ?_
 rotate_left
 ·exact Z8
 rotate_left
 ·exact Z0
 refine take_ (i := 7) (N := some 12) (v := ?_) (a' := ?_) (bl 24 255) rfl rfl (by kernel_rfl) (fun _ _ _ h => h) (Or.inl ⟨by rfl, ?_⟩) hHeld ?_ ?_
 rotate_left
 ·exact Z8
 rotate_left
 ·exact Z0
 refine pure_ (i := 8) (N := some 13) (v := ?_) (a' := ?_) (bl 24 511) rfl rfl (by kernel_rfl) (fun _ _ _ h => h) (Or.inl ⟨by rfl, ?_⟩) ?_ ?_
 rotate_left
 ·exact Z4
 rotate_left
 ·exact Z0
 refine pure_ (i := 9) (N := some 14) (v := ?_) (a' := ?_) (bl 24 1023) rfl rfl (by kernel_rfl) (fun _ _ _ h => h) (Or.inl ⟨by rfl, ?_⟩) ?_ ?_
 rotate_left
 ·exact Z4
 rotate_left
 ·exact Z0
 refine pure_ (i := 10) (N := some 15) (v := ?_) (a' := ?_) (bl 24 2047) rfl rfl (by kernel_rfl) (fun _ _ _ h => h) (Or.inl ⟨by rfl, ?_⟩) ?_ ?_
 rotate_left
 ·exact Z4
 rotate_left
 ·exact Z0
 refine pure_ (i := 11) (N := some 16) (v := undef) (a' := ?_) (bl 24 4095) rfl rfl (by kernel_rfl) (fun _ _ _ h => h) (Or.inr ⟨by rfl, rfl⟩) ?_ ?_
 rotate_left
 ·exact Z0
 refine pure_ (i := 12) (N := some 17) (v := undef) (a' := ?_) (bl 24 8191) rfl rfl (by kernel_rfl) (fun _ _ _ h => h) (Or.inr ⟨by rfl, rfl⟩) ?_ ?_
 rotate_left
 ·exact Z0
 refine pure_ (i := 13) (N := some 18) (v := undef) (a' := ?_) (bl 24 16383) rfl rfl (by kernel_rfl) (fun _ _ _ h => h) (Or.inr ⟨by rfl, rfl⟩) ?_ ?_
 rotate_left
 ·exact Z0
 refine pure_ (i := 14) (N := some 19) (v := undef) (a' := ?_) (bl 24 32767) rfl rfl (by kernel_rfl) (fun _ _ _ h => h) (Or.inr ⟨by rfl, rfl⟩) ?_ ?_
 rotate_left
 ·exact Z0
 refine pure_ (i := 15) (N := some 20) (v := undef) (a' := ?_) (bl 24 65535) rfl rfl (by kernel_rfl) (fun _ _ _ h => h) (Or.inr ⟨by rfl, rfl⟩) ?_ ?_
 rotate_left
 ·exact Z0
 refine pure_ (i := 16) (N := some 21) (v := undef) (a' := ?_) (bl 24 131071) rfl rfl (by kernel_rfl) (fun _ _ _ h => h) (Or.inr ⟨by rfl, rfl⟩) ?_ ?_
 rotate_left
 ·exact Z0
 refine pure_ (i := 17) (N := some 22) (v := undef) (a' := ?_) (bl 24 262143) rfl rfl (by kernel_rfl) (fun _ _ _ h => h) (Or.inr ⟨by rfl, rfl⟩) ?_ ?_
 rotate_left
 ·exact Z0
 refine pure_ (i := 18) (N := some 23) (v := undef) (a' := ?_) (bl 24 524287) rfl rfl (by kernel_rfl) (fun _ _ _ h => h) (Or.inr ⟨by rfl, rfl⟩) ?_ ?_
 rotate_left
 ·exact Z0
 refine pure_ (i := 19) (N := some 24) (v := undef) (a' := ?_) (bl 24 1048575) rfl rfl (by kernel_rfl) (fun _ _ _ h => h) (Or.inr ⟨by rfl, rfl⟩) ?_ ?_
 rotate_left
 ·exact Z0
 refine pure_ (i := 20) (N := some 25) (v := undef) (a' := ?_) (bl 24 2097151) rfl rfl (by kernel_rfl) (fun _ _ _ h => h) (Or.inr ⟨by rfl, rfl⟩) ?_ ?_
 rotate_left
 ·exact Z0
 refine pure_ (i := 21) (N := some 26) (v := undef) (a' := ?_) (bl 24 4194303) rfl rfl (by kernel_rfl) (fun _ _ _ h => h) (Or.inr ⟨by rfl, rfl⟩) ?_ ?_
 rotate_left
 ·exact Z0
 refine pure_ (i := 22) (N := some 27) (v := ?_) (a' := ?_) (bl 24 8388607) rfl rfl (by kernel_rfl) (fun _ _ _ h => h) (Or.inl ⟨by rfl, ?_⟩) ?_ ?_
 rotate_left
 ·exact Z4
 rotate_left
 ·exact Z0
 refine pure_ (i := 23) (N := some 4) (v := ?_) (a' := ?_) (bl 24 16777215) rfl rfl (by kernel_rfl) (fun _ _ _ h => h) (Or.inl ⟨by rfl, ?_⟩) ?_ ?_
 rotate_left
 ·exact Z4
 rotate_left
 ·exact Z0
 refine done_ (by kernel_rfl) ?_
 clear hHeld
 go_wp2
 exact ⟨rfl, rfl, below_drew (Below.refl _ _)⟩
set_option maxRecDepth 100000 in
set_option maxHeartbeats 8000000 in
theorem comma_nolt_scale (R : Nat) (st : RS) (vS vF : Value) (pl : Nat) (w : World) (hs : st.s.size ≤ 2000) (ha : st.at_ ≤ st.s.size) (hlt : ¬ st.at_ < st.s.size) (hop : st.open_ = true) (hn : 0 < st.secs.length) (hn4 : st.secs.length ≤ 4) (hsc0 : 0 ≤ (lastSec st.secs).f2) (hsc1 : (lastSec st.secs).f2 ≤ 10000) (h : Rd R w st vS vF) :
  Calls Tryd.prog 98 #[.pointer (some ⟨R, 0, none⟩), .int .i64 pl] w (fun e w' => e = .returned (.tuple #[]) ∧ (∃ vS' vF', Rd R w' { st with secs := setLast st.secs { lastSec st.secs with f2 := (lastSec st.secs).f2 + 1 } } vS' vF') ∧ Below R w w') := by
 obtain ⟨g, cap, rfl, hgb, hgl, _⟩ := Kd.S_form h.hS hn
 have hc0 : w.cell? ⟨R, 0, none⟩ = some (.string st.s) := (blk_cell h.blk 0).trans rfl
 have hc1 : w.cell? ⟨R, 1, none⟩ = some (.int .i64 st.at_) := (blk_cell h.blk 1).trans rfl
 have hc5 : w.cell? ⟨R, 5, none⟩ = some (.bool true) := by rw [← hop]; exact (blk_cell h.blk 5).trans rfl
 have HH := Aside0.mk h
 have HOP := Aside0.mk hop
 have hi0 : (0 : Int) ≤ (st.at_ : Int) := by omega
 have hltb : decide ((st.at_ : Int) < (st.s.size : Int)) = false := decide_eq_false (by omega)
 clear h hop
 have HSX := Aside0.mk (section_walk R st g cap vF _ hn hn4 (Rd.drew HH.out))
 go_enter Tryd.func98, Tryd.ntmps98
 go_wp2
 refine start_ (n := 24) (S := fun w' => w'.cell? ⟨R, 0, none⟩ = some (.string st.s) ∧ w'.cell? ⟨R, 1, none⟩ = some (.int .i64 st.at_)) (ds := []) (bl 24 0) (by kernel_rfl) rfl (by kernel_rfl) ⟨hc0, hc1⟩ (fun hHeld => ?_)
 refine pure_ (i := 0) (N := some 5) (v := ?_) (a' := ?_) (bl 24 1) rfl rfl (by kernel_rfl) (fun _ _ _ h => h) (Or.inl ⟨by rfl, ?_⟩) ?_ ?_
 rotate_left
 ·exact Z4
 rotate_left
 ·exact Z0
 refine pure_ (i := 1) (N := some 6) (v := ?_) (a' := ?_) (bl 24 3) rfl rfl (by kernel_rfl) (fun _ _ _ h => h) (Or.inl ⟨by rfl, ?_⟩) ?_ ?_
 rotate_left
 ·exact Z4
 rotate_left
 ·exact Z0
 refine pure_ (i := 2) (N := some 7) (v := ?_) (a' := ?_) (bl 24 7) rfl rfl (by kernel_rfl) (fun _ _ _ h => h) (Or.inl ⟨by rfl, ?_⟩) ?_ ?_
 rotate_left
 ·exact Z4
 rotate_left
 ·exact Z0
 refine pure_ (i := 4) (N := some 9) (v := ?_) (a' := ?_) (bl 24 23) rfl rfl (by kernel_rfl) (fun _ _ _ h => h) (Or.inl ⟨by rfl, ?_⟩) ?_ ?_
 rotate_left
 ·exact Z4
 rotate_left
 ·exact Z0
 refine pure_ (i := 5) (N := some 10) (v := ?_) (a' := ?_) (bl 24 55) rfl rfl (by kernel_rfl) (fun _ _ _ h => h) (Or.inl ⟨by rfl, ?_⟩) ?_ ?_
 rotate_left
 ·exact Z4
 rotate_left
 ·exact Z0
 refine pure_ (i := 6) (N := some 11) (v := ?_) (a' := ?_) (bl 24 119) rfl rfl (by kernel_rfl) (fun _ _ _ h => h) (Or.inl ⟨by rfl, ?_⟩) ?_ ?_
 rotate_left
 ·exact Z4
 rotate_left
 ·exact Z0
 refine take_ (i := 3) (N := some 8) (v := ?_) (a' := ?_) (bl 24 127) rfl rfl (by kernel_rfl) (fun _ _ _ h => h) (Or.inl ⟨by rfl, ?_⟩) hHeld ?_ ?_
 rotate_left
 ·exact Z8
 rotate_left
 ·exact Z0
 refine take_ (i := 7) (N := some 12) (v := ?_) (a' := ?_) (bl 24 255) rfl rfl (by kernel_rfl) (fun _ _ _ h => h) (Or.inl ⟨by rfl, ?_⟩) hHeld ?_ ?_
 rotate_left
 ·exact Z8
 rotate_left
 ·exact Z0
 refine pure_ (i := 8) (N := some 13) (v := ?_) (a' := ?_) (bl 24 511) rfl rfl (by kernel_rfl) (fun _ _ _ h => h) (Or.inl ⟨by rfl, ?_⟩) ?_ ?_
 rotate_left
 ·exact Z4
 rotate_left
 ·exact Z0
 refine pure_ (i := 9) (N := some 14) (v := ?_) (a' := ?_) (bl 24 1023) rfl rfl (by kernel_rfl) (fun _ _ _ h => h) (Or.inl ⟨by rfl, ?_⟩) ?_ ?_
 rotate_left
 ·exact Z4
 rotate_left
 ·exact Z0
 refine pure_ (i := 10) (N := some 15) (v := ?_) (a' := ?_) (bl 24 2047) rfl rfl (by kernel_rfl) (fun _ _ _ h => h) (Or.inl ⟨by rfl, ?_⟩) ?_ ?_
 rotate_left
 ·exact Z4
 rotate_left
 ·exact Z0
 refine pure_ (i := 11) (N := some 16) (v := undef) (a' := ?_) (bl 24 4095) rfl rfl (by kernel_rfl) (fun _ _ _ h => h) (Or.inr ⟨by rfl, rfl⟩) ?_ ?_
 rotate_left
 ·exact Z0
 refine pure_ (i := 12) (N := some 17) (v := undef) (a' := ?_) (bl 24 8191) rfl rfl (by kernel_rfl) (fun _ _ _ h => h) (Or.inr ⟨by rfl, rfl⟩) ?_ ?_
 rotate_left
 ·exact Z0
 refine pure_ (i := 13) (N := some 18) (v := undef) (a' := ?_) (bl 24 16383) rfl rfl (by kernel_rfl) (fun _ _ _ h => h) (Or.inr ⟨by rfl, rfl⟩) ?_ ?_
 rotate_left
 ·exact Z0
 refine pure_ (i := 14) (N := some 19) (v := undef) (a' := ?_) (bl 24 32767) rfl rfl (by kernel_rfl) (fun _ _ _ h => h) (Or.inr ⟨by rfl, rfl⟩) ?_ ?_
 rotate_left
 ·exact Z0
 refine pure_ (i := 15) (N := some 20) (v := undef) (a' := ?_) (bl 24 65535) rfl rfl (by kernel_rfl) (fun _ _ _ h => h) (Or.inr ⟨by rfl, rfl⟩) ?_ ?_
 rotate_left
 ·exact Z0
 refine pure_ (i := 16) (N := some 21) (v := undef) (a' := ?_) (bl 24 131071) rfl rfl (by kernel_rfl) (fun _ _ _ h => h) (Or.inr ⟨by rfl, rfl⟩) ?_ ?_
 rotate_left
 ·exact Z0
 refine pure_ (i := 17) (N := some 22) (v := undef) (a' := ?_) (bl 24 262143) rfl rfl (by kernel_rfl) (fun _ _ _ h => h) (Or.inr ⟨by rfl, rfl⟩) ?_ ?_
 rotate_left
 ·exact Z0
 refine pure_ (i := 18) (N := some 23) (v := undef) (a' := ?_) (bl 24 524287) rfl rfl (by kernel_rfl) (fun _ _ _ h => h) (Or.inr ⟨by rfl, rfl⟩) ?_ ?_
 rotate_left
 ·exact Z0
 refine pure_ (i := 19) (N := some 24) (v := undef) (a' := ?_) (bl 24 1048575) rfl rfl (by kernel_rfl) (fun _ _ _ h => h) (Or.inr ⟨by rfl, rfl⟩) ?_ ?_
 rotate_left
 ·exact Z0
 refine pure_ (i := 20) (N := some 25) (v := undef) (a' := ?_) (bl 24 2097151) rfl rfl (by kernel_rfl) (fun _ _ _ h => h) (Or.inr ⟨by rfl, rfl⟩) ?_ ?_
 rotate_left
 ·exact Z0
 refine pure_ (i := 21) (N := some 26) (v := undef) (a' := ?_) (bl 24 4194303) rfl rfl (by kernel_rfl) (fun _ _ _ h => h) (Or.inr ⟨by rfl, rfl⟩) ?_ ?_
 rotate_left
 ·exact Z0
 refine pure_ (i := 22) (N := some 27) (v := ?_) (a' := ?_) (bl 24 8388607) rfl rfl (by kernel_rfl) (fun _ _ _ h => h) (Or.inl ⟨by rfl, ?_⟩) ?_ ?_
 rotate_left
 ·exact Z4
 rotate_left
 ·exact Z0
 refine pure_ (i := 23) (N := some 4) (v := ?_) (a' := ?_) (bl 24 16777215) rfl rfl (by kernel_rfl) (fun _ _ _ h => h) (Or.inl ⟨by rfl, ?_⟩) ?_ ?_
 rotate_left
 ·exact Z4
 rotate_left
 ·exact Z0
 refine done_ (by kernel_rfl) ?_
 clear hHeld
 go_wp2_with (fail)
 (with_reducible refine HSX.out.mono ?_)
 rintro e w2 ⟨rfl, ⟨m, rfl⟩⟩
 have HR2 := Aside0.mk (Rd.drewN (Rd.drew HH.out) m)
 have HB2 := Aside0.mk (pw_below_drewN (below_drew (Below.refl R w)) m)
 clear HSX hc0 hc1 hc5 HH
 generalize w.drew.drewN m = W2 at HR2 HB2 ⊢
 obtain ⟨oki, c, hcl, hM, hcc, hfr, hoki, hH⟩ := Kd.S_elem HR2.out.hS z62 ((st.secs.length - 1 : Nat) : Int) (by omega) (by omega)
 rw [Int.toNat_natCast] at hM hcc hfr
 replace hM : k62.M W2 (R + 1) oki (lastSec st.secs) c := hM
 obtain ⟨v0, rfl, hv0⟩ := k62_openM hM
 have HV0 := Aside0.mk hv0
 have HH2 := Aside0.mk hH
 have hx2 := hcc 2 _ rfl
 rw [show k62.sz = 3 from rfl] at hx2
 have hgR : ¬ g = R := by omega
 have hs2 := blk_lt HR2.out.blk
 clear hM hcc hfr hoki hv0 hH hcl
 go_wp2_with ((with_reducible refine gate_store (t := 3) (p := 35) rfl ?_); refine Kd.H_store k62 (w0 := W2) (R + 1) rfl rfl 3 (.tmp 35) (.tmp 33) rfl 62 ((st.secs.length - 1 : Nat) : Int) 2 st.secs { lastSec st.secs with f2 := (lastSec st.secs).f2 + 1 } (.int .i64 ((lastSec st.secs).f2 + 1)) [.int .i64 ((lastSec st.secs).f2 + 1)] [v0, .bool (lastSec st.secs).f1, .int .i64 (lastSec st.secs).f2] (fun _ => True) oki oki rfl (by rw [Int.toNat_natCast]; rfl) rfl rfl (show _ = some 1 from by kernel_rfl) (by simp [Value.oneCell']) HH2.out (by omega) (by omega) (by show 2 + 1 ≤ 3; omega) (k62_mkM _ _ _ _ HV0.out) (fun _ hk => hk) (Below.refl _ _) ?_; intro w4 hs4 hb4 hg4; rw [Int.toNat_natCast] at hs4; have HS4 := Aside0.mk (show Kd.S k62 62 w4 (R + 1) (fun _ => True) (.slice (some ⟨g, 0, none⟩) st.secs.length cap) (setLast st.secs { lastSec st.secs with f2 := (lastSec st.secs).f2 + 1 }) from hs4); have HBLK4 := Aside0.mk (blk_grown HR2.out.blk hg4 (by simp; omega)); have HF4 := Aside0.mk (Kd.R_over' (e' := 62) (v := .slice (some ⟨g, 0, none⟩) st.secs.length cap) HR2.out.hF (Kd.S_typed HR2.out.hS) (by decide) hg4); have HB4 := Aside0.mk (HB2.out.trans (hb4.mono (Nat.le_succ R))); clear hs4 hb4 hg4)
 go_end0
 exact ⟨rfl, ⟨_, _, ⟨HBLK4.out, HS4.out, HF4.out⟩⟩, HB4.out⟩
set_option maxRecDepth 100000 in
set_option maxHeartbeats 8000000 in
theorem comma_nodg_closed (R : Nat) (st : RS) (vS vF : Value) (pl : Nat) (w : World) (hs : st.s.size ≤ 2000) (ha : st.at_ ≤ st.s.size) (hlt : st.at_ < st.s.size) (hdg : isDg (st.s[st.at_]'hlt) = false) (hop : st.open_ = false) (h : Rd R w st vS vF) :
  Calls Tryd.prog 98 #[.pointer (some ⟨R, 0, none⟩), .int .i64 pl] w (fun e w' => e = fault 12 pl ∧ Below w.heap.size w w') := by
 have hc0 : w.cell? ⟨R, 0, none⟩ = some (.string st.s) := (blk_cell h.blk 0).trans rfl
 have hc1 : w.cell? ⟨R, 1, none⟩ = some (.int .i64 st.at_) := (blk_cell h.blk 1).trans rfl
 have hc5 : w.cell? ⟨R, 5, none⟩ = some (.bool false) := by rw [← hop]; exact (blk_cell h.blk 5).trans rfl
 have HH := Aside0.mk h
 have HOP := Aside0.mk hop
 have hi0 : (0 : Int) ≤ (st.at_ : Int) := by omega
 have hltb : decide ((st.at_ : Int) < (st.s.size : Int)) = true := decide_eq_true (by omega)
 have hltc : (st.at_ : Int) < (st.s.size : Int) := by omega
 have hdd : decide (0 ≤ Lib.indexByte [48, 35, 63] (st.s[st.at_]'hlt)) = false := (isDg_ix _).trans hdg
 clear hdg
 have hpn : ∀ (t : TypeId) (v : Value) (w : World), (Instr.panic (.iface t v)).run Tryd.prog w = .halt (.panic (.iface t v)) w := fun _ _ _ => rfl
 clear h hop
 go_enter Tryd.func98, Tryd.ntmps98
 go_wp2
 refine start_ (n := 24) (S := fun w' => w'.cell? ⟨R, 0, none⟩ = some (.string st.s) ∧ w'.cell? ⟨R, 1, none⟩ = some (.int .i64 st.at_)) (ds := []) (bl 24 0) (by kernel_rfl) rfl (by kernel_rfl) ⟨hc0, hc1⟩ (fun hHeld => ?_)
 refine pure_ (i := 0) (N := some 5) (v := ?_) (a' := ?_) (bl 24 1) rfl rfl (by kernel_rfl) (fun _ _ _ h => h) (Or.inl ⟨by rfl, ?_⟩) ?_ ?_
 rotate_left
 ·exact Z4
 rotate_left
 ·exact Z0
 refine pure_ (i := 1) (N := some 6) (v := ?_) (a' := ?_) (bl 24 3) rfl rfl (by kernel_rfl) (fun _ _ _ h => h) (Or.inl ⟨by rfl, ?_⟩) ?_ ?_
 rotate_left
 ·exact Z4
 rotate_left
 ·exact Z0
 refine pure_ (i := 2) (N := some 7) (v := ?_) (a' := ?_) (bl 24 7) rfl rfl (by kernel_rfl) (fun _ _ _ h => h) (Or.inl ⟨by rfl, ?_⟩) ?_ ?_
 rotate_left
 ·exact Z4
 rotate_left
 ·exact Z0
 refine pure_ (i := 4) (N := some 9) (v := ?_) (a' := ?_) (bl 24 23) rfl rfl (by kernel_rfl) (fun _ _ _ h => h) (Or.inl ⟨by rfl, ?_⟩) ?_ ?_
 rotate_left
 ·exact Z4
 rotate_left
 ·exact Z0
 refine pure_ (i := 5) (N := some 10) (v := ?_) (a' := ?_) (bl 24 55) rfl rfl (by kernel_rfl) (fun _ _ _ h => h) (Or.inl ⟨by rfl, ?_⟩) ?_ ?_
 rotate_left
 ·exact Z4
 rotate_left
 ·exact Z0
 refine pure_ (i := 6) (N := some 11) (v := ?_) (a' := ?_) (bl 24 119) rfl rfl (by kernel_rfl) (fun _ _ _ h => h) (Or.inl ⟨by rfl, ?_⟩) ?_ ?_
 rotate_left
 ·exact Z4
 rotate_left
 ·exact Z0
 refine take_ (i := 3) (N := some 8) (v := ?_) (a' := ?_) (bl 24 127) rfl rfl (by kernel_rfl) (fun _ _ _ h => h) (Or.inl ⟨by rfl, ?_⟩) hHeld ?_ ?_
 rotate_left
 ·exact Z8
 rotate_left
 ·exact Z0
 refine take_ (i := 7) (N := some 12) (v := ?_) (a' := ?_) (bl 24 255) rfl rfl (by kernel_rfl) (fun _ _ _ h => h) (Or.inl ⟨by rfl, ?_⟩) hHeld ?_ ?_
 rotate_left
 ·exact Z8
 rotate_left
 ·exact Z0
 refine pure_ (i := 8) (N := some 13) (v := ?_) (a' := ?_) (bl 24 511) rfl rfl (by kernel_rfl) (fun _ _ _ h => h) (Or.inl ⟨by rfl, ?_⟩) ?_ ?_
 rotate_left
 ·exact Z4
 rotate_left
 ·exact Z0
 refine pure_ (i := 9) (N := some 14) (v := ?_) (a' := ?_) (bl 24 1023) rfl rfl (by kernel_rfl) (fun _ _ _ h => h) (Or.inl ⟨by rfl, ?_⟩) ?_ ?_
 rotate_left
 ·exact Z4
 rotate_left
 ·exact Z0
 refine pure_ (i := 10) (N := some 15) (v := ?_) (a' := ?_) (bl 24 2047) rfl rfl (by kernel_rfl) (fun _ _ _ h => h) (Or.inl ⟨by rfl, ?_⟩) ?_ ?_
 rotate_left
 ·exact Z4
 rotate_left
 ·exact Z0
 refine pure_ (i := 11) (N := some 16) (v := ?_) (a' := ?_) (bl 24 4095) rfl rfl (by kernel_rfl) (fun _ _ _ h => h) (Or.inl ⟨by rfl, ?_⟩) ?_ ?_
 rotate_left
 ·exact Z4
 rotate_left
 ·exact Z0
 refine pure_ (i := 12) (N := some 17) (v := ?_) (a' := ?_) (bl 24 8191) rfl rfl (by kernel_rfl) (fun _ _ _ h => h) (Or.inl ⟨by rfl, ?_⟩) ?_ ?_
 rotate_left
 ·exact Z4
 rotate_left
 ·exact Z0
 refine pure_ (i := 13) (N := some 18) (v := ?_) (a' := ?_) (bl 24 16383) rfl rfl (by kernel_rfl) (fun _ _ _ h => h) (Or.inl ⟨by rfl, ?_⟩) ?_ ?_
 rotate_left
 ·exact Z4
 rotate_left
 ·exact Z0
 refine pure_ (i := 15) (N := some 20) (v := ?_) (a' := ?_) (bl 24 49151) rfl rfl (by kernel_rfl) (fun _ _ _ h => h) (Or.inl ⟨by rfl, ?_⟩) ?_ ?_
 rotate_left
 ·exact Z4
 rotate_left
 ·exact Z0
 refine pure_ (i := 16) (N := some 21) (v := ?_) (a' := ?_) (bl 24 114687) rfl rfl (by kernel_rfl) (fun _ _ _ h => h) (Or.inl ⟨by rfl, ?_⟩) ?_ ?_
 rotate_left
 ·exact Z4
 rotate_left
 ·exact Z0
 refine pure_ (i := 17) (N := some 22) (v := ?_) (a' := ?_) (bl 24 245759) rfl rfl (by kernel_rfl) (fun _ _ _ h => h) (Or.inl ⟨by rfl, ?_⟩) ?_ ?_
 rotate_left
 ·exact Z4
 rotate_left
 ·exact Z0
 refine take_ (i := 14) (N := some 19) (v := ?_) (a' := ?_) (bl 24 262143) rfl rfl (by kernel_rfl) (fun _ _ _ h => h) (Or.inl ⟨by rfl, ?_⟩) hHeld ?_ ?_
 rotate_left
 ·exact Z8
 rotate_left
 ·exact Z0
 refine take_ (i := 18) (N := some 23) (v := ?_) (a' := ?_) (bl 24 524287) rfl rfl (by kernel_rfl) (fun _ _ _ h => h) (Or.inl ⟨by rfl, ?_⟩) hHeld ?_ ?_
 rotate_left
 ·exact Z8
 rotate_left
 ·exact Z0
 refine take_ (i := 19) (N := some 24) (v := ?_) (a' := ?_) (bl 24 1048575) rfl rfl (by kernel_rfl) (fun _ _ _ h => h) (Or.inl ⟨by rfl, ?_⟩) hHeld ?_ ?_
 rotate_left
 ·exact Z8
 rotate_left
 ·exact Z0
 refine one_ (i := 20) (N := some 25) (bl 24 2097151) rfl rfl (by kernel_rfl) (by decide) (fun K hK => ?_)
 refine goes_ Tryd.func94 (by kernel_rfl) rfl #[.string ⟨#[48, 35, 63]⟩, .int .u8 ((st.s[st.at_]'hlt).toNat : Int)] (by rfl) rfl rfl Z23 ?_
 with_reducible refine (Tryd.strings_IndexByte _ _ _).mono ?_
 rintro e w2 ⟨rfl, rfl⟩
 refine ⟨_, rfl, ?_⟩
 refine hK.out _ _ ⟨hHeld.1, hHeld.2⟩ (fun hHeld => ?_)
 clear hK K
 refine norm_ (a' := ?_) ?_ ?_
 rotate_left
 ·show Act.put _ (some 25) _ = _
  simp only [Act.put, sA_, s0_, s1_, i64_w, i32_w]
  rfl
 refine pure_ (i := 21) (N := some 26) (v := ?_) (a' := ?_) (bl 24 4194303) rfl rfl (by kernel_rfl) (fun _ _ _ h => h) (Or.inl ⟨by rfl, ?_⟩) ?_ ?_
 rotate_left
 ·exact Z4
 rotate_left
 ·exact Z0
 refine pure_ (i := 22) (N := some 27) (v := ?_) (a' := ?_) (bl 24 8388607) rfl rfl (by kernel_rfl) (fun _ _ _ h => h) (Or.inl ⟨by rfl, ?_⟩) ?_ ?_
 rotate_left
 ·exact Z4
 rotate_left
 ·exact Z0
 refine pure_ (i := 23) (N := some 4) (v := ?_) (a' := ?_) (bl 24 16777215) rfl rfl (by kernel_rfl) (fun _ _ _ h => h) (Or.inl ⟨by rfl, ?_⟩) ?_ ?_
 rotate_left
 ·exact Z4
 rotate_left
 ·exact Z0
 refine done_ (by kernel_rfl) ?_
 clear hHeld
 go_wp2
 exact ⟨rfl, rfl, below_drew (Below.refl _ _)⟩
set_option maxRecDepth 100000 in
set_option maxHeartbeats 8000000 in
theorem comma_nodg_scale (R : Nat) (st : RS) (vS vF : Value) (pl : Nat) (w : World) (hs : st.s.size ≤ 2000) (ha : st.at_ ≤ st.s.size) (hlt : st.at_ < st.s.size) (hdg : isDg (st.s[st.at_]'hlt) = false) (hop : st.open_ = true) (hn : 0 < st.secs.length) (hn4 : st.secs.length ≤ 4) (hsc0 : 0 ≤ (lastSec st.secs).f2) (hsc1 : (lastSec st.secs).f2 ≤ 10000) (h : Rd R w st vS vF) :
  Calls Tryd.prog 98 #[.pointer (some ⟨R, 0, none⟩), .int .i64 pl] w (fun e w' => e = .returned (.tuple #[]) ∧ (∃ vS' vF', Rd R w' { st with secs := setLast st.secs { lastSec st.secs with f2 := (lastSec st.secs).f2 + 1 } } vS' vF') ∧ Below R w w') := by
 obtain ⟨g, cap, rfl, hgb, hgl, _⟩ := Kd.S_form h.hS hn
 have hc0 : w.cell? ⟨R, 0, none⟩ = some (.string st.s) := (blk_cell h.blk 0).trans rfl
 have hc1 : w.cell? ⟨R, 1, none⟩ = some (.int .i64 st.at_) := (blk_cell h.blk 1).trans rfl
 have hc5 : w.cell? ⟨R, 5, none⟩ = some (.bool true) := by rw [← hop]; exact (blk_cell h.blk 5).trans rfl
 have HH := Aside0.mk h
 have HOP := Aside0.mk hop
 have hi0 : (0 : Int) ≤ (st.at_ : Int) := by omega
 have hltb : decide ((st.at_ : Int) < (st.s.size : Int)) = true := decide_eq_true (by omega)
 have hltc : (st.at_ : Int) < (st.s.size : Int) := by omega
 have hdd : decide (0 ≤ Lib.indexByte [48, 35, 63] (st.s[st.at_]'hlt)) = false := (isDg_ix _).trans hdg
 clear hdg
 clear h hop
 have HSX := Aside0.mk (section_walk R st g cap vF _ hn hn4 (Rd.drew HH.out))
 go_enter Tryd.func98, Tryd.ntmps98
 go_wp2
 refine start_ (n := 24) (S := fun w' => w'.cell? ⟨R, 0, none⟩ = some (.string st.s) ∧ w'.cell? ⟨R, 1, none⟩ = some (.int .i64 st.at_)) (ds := []) (bl 24 0) (by kernel_rfl) rfl (by kernel_rfl) ⟨hc0, hc1⟩ (fun hHeld => ?_)
 refine pure_ (i := 0) (N := some 5) (v := ?_) (a' := ?_) (bl 24 1) rfl rfl (by kernel_rfl) (fun _ _ _ h => h) (Or.inl ⟨by rfl, ?_⟩) ?_ ?_
 rotate_left
 ·exact Z4
 rotate_left
 ·exact Z0
 refine pure_ (i := 1) (N := some 6) (v := ?_) (a' := ?_) (bl 24 3) rfl rfl (by kernel_rfl) (fun _ _ _ h => h) (Or.inl ⟨by rfl, ?_⟩) ?_ ?_
 rotate_left
 ·exact Z4
 rotate_left
 ·exact Z0
 refine pure_ (i := 2) (N := some 7) (v := ?_) (a' := ?_) (bl 24 7) rfl rfl (by kernel_rfl) (fun _ _ _ h => h) (Or.inl ⟨by rfl, ?_⟩) ?_ ?_
 rotate_left
 ·exact Z4
 rotate_left
 ·exact Z0
 refine pure_ (i := 4) (N := some 9) (v := ?_) (a' := ?_) (bl 24 23) rfl rfl (by kernel_rfl) (fun _ _ _ h => h) (Or.inl ⟨by rfl, ?_⟩) ?_ ?_
 rotate_left
 ·exact Z4
 rotate_left
 ·exact Z0
 refine pure_ (i := 5) (N := some 10) (v := ?_) (a' := ?_) (bl 24 55) rfl rfl (by kernel_rfl) (fun _ _ _ h => h) (Or.inl ⟨by rfl, ?_⟩) ?_ ?_
 rotate_left
 ·exact Z4
 rotate_left
 ·exact Z0
 refine pure_ (i := 6) (N := some 11) (v := ?_) (a' := ?_) (bl 24 119) rfl rfl (by kernel_rfl) (fun _ _ _ h => h) (Or.inl ⟨by rfl, ?_⟩) ?_ ?_
 rotate_left
 ·exact Z4
 rotate_left
 ·exact Z0
 refine take_ (i := 3) (N := some 8) (v := ?_) (a' := ?_) (bl 24 127) rfl rfl (by kernel_rfl) (fun _ _ _ h => h) (Or.inl ⟨by rfl, ?_⟩) hHeld ?_ ?_
 rotate_left
 ·exact Z8
 rotate_left
 ·exact Z0
 refine take_ (i := 7) (N := some 12) (v := ?_) (a' := ?_) (bl 24 255) rfl rfl (by kernel_rfl) (fun _ _ _ h => h) (Or.inl ⟨by rfl, ?_⟩) hHeld ?_ ?_
 rotate_left
 ·exact Z8
 rotate_left
 ·exact Z0
 refine pure_ (i := 8) (N := some 13) (v := ?_) (a' := ?_) (bl 24 511) rfl rfl (by kernel_rfl) (fun _ _ _ h => h) (Or.inl ⟨by rfl, ?_⟩) ?_ ?_
 rotate_left
 ·exact Z4
 rotate_left
 ·exact Z0
 refine pure_ (i := 9) (N := some 14) (v := ?_) (a' := ?_) (bl 24 1023) rfl rfl (by kernel_rfl) (fun _ _ _ h => h) (Or.inl ⟨by rfl, ?_⟩) ?_ ?_
 rotate_left
 ·exact Z4
 rotate_left
 ·exact Z0
 refine pure_ (i := 10) (N := some 15) (v := ?_) (a' := ?_) (bl 24 2047) rfl rfl (by kernel_rfl) (fun _ _ _ h => h) (Or.inl ⟨by rfl, ?_⟩) ?_ ?_
 rotate_left
 ·exact Z4
 rotate_left
 ·exact Z0
 refine pure_ (i := 11) (N := some 16) (v := ?_) (a' := ?_) (bl 24 4095) rfl rfl (by kernel_rfl) (fun _ _ _ h => h) (Or.inl ⟨by rfl, ?_⟩) ?_ ?_
 rotate_left
 ·exact Z4
 rotate_left
 ·exact Z0
 refine pure_ (i := 12) (N := some 17) (v := ?_) (a' := ?_) (bl 24 8191) rfl rfl (by kernel_rfl) (fun _ _ _ h => h) (Or.inl ⟨by rfl, ?_⟩) ?_ ?_
 rotate_left
 ·exact Z4
 rotate_left
 ·exact Z0
 refine pure_ (i := 13) (N := some 18) (v := ?_) (a' := ?_) (bl 24 16383) rfl rfl (by kernel_rfl) (fun _ _ _ h => h) (Or.inl ⟨by rfl, ?_⟩) ?_ ?_
 rotate_left
 ·exact Z4
 rotate_left
 ·exact Z0
 refine pure_ (i := 15) (N := some 20) (v := ?_) (a' := ?_) (bl 24 49151) rfl rfl (by kernel_rfl) (fun _ _ _ h => h) (Or.inl ⟨by rfl, ?_⟩) ?_ ?_
 rotate_left
 ·exact Z4
 rotate_left
 ·exact Z0
 refine pure_ (i := 16) (N := some 21) (v := ?_) (a' := ?_) (bl 24 114687) rfl rfl (by kernel_rfl) (fun _ _ _ h => h) (Or.inl ⟨by rfl, ?_⟩) ?_ ?_
 rotate_left
 ·exact Z4
 rotate_left
 ·exact Z0
 refine pure_ (i := 17) (N := some 22) (v := ?_) (a' := ?_) (bl 24 245759) rfl rfl (by kernel_rfl) (fun _ _ _ h => h) (Or.inl ⟨by rfl, ?_⟩) ?_ ?_
 rotate_left
 ·exact Z4
 rotate_left
 ·exact Z0
 refine take_ (i := 14) (N := some 19) (v := ?_) (a' := ?_) (bl 24 262143) rfl rfl (by kernel_rfl) (fun _ _ _ h => h) (Or.inl ⟨by rfl, ?_⟩) hHeld ?_ ?_
 rotate_left
 ·exact Z8
 rotate_left
 ·exact Z0
 refine take_ (i := 18) (N := some 23) (v := ?_) (a' := ?_) (bl 24 524287) rfl rfl (by kernel_rfl) (fun _ _ _ h => h) (Or.inl ⟨by rfl, ?_⟩) hHeld ?_ ?_
 rotate_left
 ·exact Z8
 rotate_left
 ·exact Z0
 refine take_ (i := 19) (N := some 24) (v := ?_) (a' := ?_) (bl 24 1048575) rfl rfl (by kernel_rfl) (fun _ _ _ h => h) (Or.inl ⟨by rfl, ?_⟩) hHeld ?_ ?_
 rotate_left
 ·exact Z8
 rotate_left
 ·exact Z0
 refine one_ (i := 20) (N := some 25) (bl 24 2097151) rfl rfl (by kernel_rfl) (by decide) (fun K hK => ?_)
 refine goes_ Tryd.func94 (by kernel_rfl) rfl #[.string ⟨#[48, 35, 63]⟩, .int .u8 ((st.s[st.at_]'hlt).toNat : Int)] (by rfl) rfl rfl Z23 ?_
 with_reducible refine (Tryd.strings_IndexByte _ _ _).mono ?_
 rintro e w2 ⟨rfl, rfl⟩
 refine ⟨_, rfl, ?_⟩
 refine hK.out _ _ ⟨hHeld.1, hHeld.2⟩ (fun hHeld => ?_)
 clear hK K
 refine norm_ (a' := ?_) ?_ ?_
 rotate_left
 ·show Act.put _ (some 25) _ = _
  simp only [Act.put, sA_, s0_, s1_, i64_w, i32_w]
  rfl
 refine pure_ (i := 21) (N := some 26) (v := ?_) (a' := ?_) (bl 24 4194303) rfl rfl (by kernel_rfl) (fun _ _ _ h => h) (Or.inl ⟨by rfl, ?_⟩) ?_ ?_
 rotate_left
 ·exact Z4
 rotate_left
 ·exact Z0
 refine pure_ (i := 22) (N := some 27) (v := ?_) (a' := ?_) (bl 24 8388607) rfl rfl (by kernel_rfl) (fun _ _ _ h => h) (Or.inl ⟨by rfl, ?_⟩) ?_ ?_
 rotate_left
 ·exact Z4
 rotate_left
 ·exact Z0
 refine pure_ (i := 23) (N := some 4) (v := ?_) (a' := ?_) (bl 24 16777215) rfl rfl (by kernel_rfl) (fun _ _ _ h => h) (Or.inl ⟨by rfl, ?_⟩) ?_ ?_
 rotate_left
 ·exact Z4
 rotate_left
 ·exact Z0
 refine done_ (by kernel_rfl) ?_
 clear hHeld
 go_wp2_with (fail)
 (with_reducible refine HSX.out.mono ?_)
 rintro e w2 ⟨rfl, ⟨m, rfl⟩⟩
 have HR2 := Aside0.mk (Rd.drewN (Rd.drew HH.out) m)
 have HB2 := Aside0.mk (pw_below_drewN (below_drew (Below.refl R w)) m)
 clear HSX hc0 hc1 hc5 HH
 generalize w.drew.drewN m = W2 at HR2 HB2 ⊢
 obtain ⟨oki, c, hcl, hM, hcc, hfr, hoki, hH⟩ := Kd.S_elem HR2.out.hS z62 ((st.secs.length - 1 : Nat) : Int) (by omega) (by omega)
 rw [Int.toNat_natCast] at hM hcc hfr
 replace hM : k62.M W2 (R + 1) oki (lastSec st.secs) c := hM
 obtain ⟨v0, rfl, hv0⟩ := k62_openM hM
 have HV0 := Aside0.mk hv0
 have HH2 := Aside0.mk hH
 have hx2 := hcc 2 _ rfl
 rw [show k62.sz = 3 from rfl] at hx2
 have hgR : ¬ g = R := by omega
 have hs2 := blk_lt HR2.out.blk
 clear hM hcc hfr hoki hv0 hH hcl
 go_wp2_with ((with_reducible refine gate_store (t := 3) (p := 35) rfl ?_); refine Kd.H_store k62 (w0 := W2) (R + 1) rfl rfl 3 (.tmp 35) (.tmp 33) rfl 62 ((st.secs.length - 1 : Nat) : Int) 2 st.secs { lastSec st.secs with f2 := (lastSec st.secs).f2 + 1 } (.int .i64 ((lastSec st.secs).f2 + 1)) [.int .i64 ((lastSec st.secs).f2 + 1)] [v0, .bool (lastSec st.secs).f1, .int .i64 (lastSec st.secs).f2] (fun _ => True) oki oki rfl (by rw [Int.toNat_natCast]; rfl) rfl rfl (show _ = some 1 from by kernel_rfl) (by simp [Value.oneCell']) HH2.out (by omega) (by omega) (by show 2 + 1 ≤ 3; omega) (k62_mkM _ _ _ _ HV0.out) (fun _ hk => hk) (Below.refl _ _) ?_; intro w4 hs4 hb4 hg4; rw [Int.toNat_natCast] at hs4; have HS4 := Aside0.mk (show Kd.S k62 62 w4 (R + 1) (fun _ => True) (.slice (some ⟨g, 0, none⟩) st.secs.length cap) (setLast st.secs { lastSec st.secs with f2 := (lastSec st.secs).f2 + 1 }) from hs4); have HBLK4 := Aside0.mk (blk_grown HR2.out.blk hg4 (by simp; omega)); have HF4 := Aside0.mk (Kd.R_over' (e' := 62) (v := .slice (some ⟨g, 0, none⟩) st.secs.length cap) HR2.out.hF (Kd.S_typed HR2.out.hS) (by decide) hg4); have HB4 := Aside0.mk (HB2.out.trans (hb4.mono (Nat.le_succ R))); clear hs4 hb4 hg4)
 go_end0
 exact ⟨rfl, ⟨_, _, ⟨HBLK4.out, HS4.out, HF4.out⟩⟩, HB4.out⟩
set_option maxRecDepth 100000 in
set_option maxHeartbeats 8000000 in
theorem comma_dg_closed (R : Nat) (st : RS) (vS vF : Value) (pl : Nat) (w : World) (hs : st.s.size ≤ 2000) (ha : st.at_ ≤ st.s.size) (hlt : st.at_ < st.s.size) (hdg : isDg (st.s[st.at_]'hlt) = true) (hop : st.open_ = false) (h : Rd R w st vS vF) :
  Calls Tryd.prog 98 #[.pointer (some ⟨R, 0, none⟩), .int .i64 pl] w (fun e w' => e = fault 12 pl ∧ Below w.heap.size w w') := by
 have hc0 : w.cell? ⟨R, 0, none⟩ = some (.string st.s) := (blk_cell h.blk 0).trans rfl
 have hc1 : w.cell? ⟨R, 1, none⟩ = some (.int .i64 st.at_) := (blk_cell h.blk 1).trans rfl
 have hc5 : w.cell? ⟨R, 5, none⟩ = some (.bool false) := by rw [← hop]; exact (blk_cell h.blk 5).trans rfl
 have HH := Aside0.mk h
 have HOP := Aside0.mk hop
 have hi0 : (0 : Int) ≤ (st.at_ : Int) := by omega
 have hltb : decide ((st.at_ : Int) < (st.s.size : Int)) = true := decide_eq_true (by omega)
 have hltc : (st.at_ : Int) < (st.s.size : Int) := by omega
 have hdd : decide (0 ≤ Lib.indexByte [48, 35, 63] (st.s[st.at_]'hlt)) = true := (isDg_ix _).trans hdg
 clear hdg
 have hpn : ∀ (t : TypeId) (v : Value) (w : World), (Instr.panic (.iface t v)).run Tryd.prog w = .halt (.panic (.iface t v)) w := fun _ _ _ => rfl
 clear h hop
 go_enter Tryd.func98, Tryd.ntmps98
 go_wp2
 refine start_ (n := 24) (S := fun w' => w'.cell? ⟨R, 0, none⟩ = some (.string st.s) ∧ w'.cell? ⟨R, 1, none⟩ = some (.int .i64 st.at_)) (ds := []) (bl 24 0) (by kernel_rfl) rfl (by kernel_rfl) ⟨hc0, hc1⟩ (fun hHeld => ?_)
 refine pure_ (i := 0) (N := some 5) (v := ?_) (a' := ?_) (bl 24 1) rfl rfl (by kernel_rfl) (fun _ _ _ h => h) (Or.inl ⟨by rfl, ?_⟩) ?_ ?_
 rotate_left
 ·exact Z4
 rotate_left
 ·exact Z0
 refine pure_ (i := 1) (N := some 6) (v := ?_) (a' := ?_) (bl 24 3) rfl rfl (by kernel_rfl) (fun _ _ _ h => h) (Or.inl ⟨by rfl, ?_⟩) ?_ ?_
 rotate_left
 ·exact Z4
 rotate_left
 ·exact Z0
 refine pure_ (i := 2) (N := some 7) (v := ?_) (a' := ?_) (bl 24 7) rfl rfl (by kernel_rfl) (fun _ _ _ h => h) (Or.inl ⟨by rfl, ?_⟩) ?_ ?_
 rotate_left
 ·exact Z4
 rotate_left
 ·exact Z0
 refine pure_ (i := 4) (N := some 9) (v := ?_) (a' := ?_) (bl 24 23) rfl rfl (by kernel_rfl) (fun _ _ _ h => h) (Or.inl ⟨by rfl, ?_⟩) ?_ ?_
 rotate_left
 ·exact Z4
 rotate_left
 ·exact Z0
 refine pure_ (i := 5) (N := some 10) (v := ?_) (a' := ?_) (bl 24 55) rfl rfl (by kernel_rfl) (fun _ _ _ h => h) (Or.inl ⟨by rfl, ?_⟩) ?_ ?_
 rotate_left
 ·exact Z4
 rotate_left
 ·exact Z0
 refine pure_ (i := 6) (N := some 11) (v := ?_) (a' := ?_) (bl 24 119) rfl rfl (by kernel_rfl) (fun _ _ _ h => h) (Or.inl ⟨by rfl, ?_⟩) ?_ ?_
 rotate_left
 ·exact Z4
 rotate_left
 ·exact Z0
 refine take_ (i := 3) (N := some 8) (v := ?_) (a' := ?_) (bl 24 127) rfl rfl (by kernel_rfl) (fun _ _ _ h => h) (Or.inl ⟨by rfl, ?_⟩) hHeld ?_ ?_
 rotate_left
 ·exact Z8
 rotate_left
 ·exact Z0
 refine take_ (i := 7) (N := some 12) (v := ?_) (a' := ?_) (bl 24 255) rfl rfl (by kernel_rfl) (fun _ _ _ h => h) (Or.inl ⟨by rfl, ?_⟩) hHeld ?_ ?_
 rotate_left
 ·exact Z8
 rotate_left
 ·exact Z0
 refine pure_ (i := 8) (N := some 13) (v := ?_) (a' := ?_) (bl 24 511) rfl rfl (by kernel_rfl) (fun _ _ _ h => h) (Or.inl ⟨by rfl, ?_⟩) ?_ ?_
 rotate_left
 ·exact Z4
 rotate_left
 ·exact Z0
 refine pure_ (i := 9) (N := some 14) (v := ?_) (a' := ?_) (bl 24 1023) rfl rfl (by kernel_rfl) (fun _ _ _ h => h) (Or.inl ⟨by rfl, ?_⟩) ?_ ?_
 rotate_left
 ·exact Z4
 rotate_left
 ·exact Z0
 refine pure_ (i := 10) (N := some 15) (v := ?_) (a' := ?_) (bl 24 2047) rfl rfl (by kernel_rfl) (fun _ _ _ h => h) (Or.inl ⟨by rfl, ?_⟩) ?_ ?_
 rotate_left
 ·exact Z4
 rotate_left
 ·exact Z0
 refine pure_ (i := 11) (N := some 16) (v := ?_) (a' := ?_) (bl 24 4095) rfl rfl (by kernel_rfl) (fun _ _ _ h => h) (Or.inl ⟨by rfl, ?_⟩) ?_ ?_
 rotate_left
 ·exact Z4
 rotate_left
 ·exact Z0
 refine pure_ (i := 12) (N := some 17) (v := ?_) (a' := ?_) (bl 24 8191) rfl rfl (by kernel_rfl) (fun _ _ _ h => h) (Or.inl ⟨by rfl, ?_⟩) ?_ ?_
 rotate_left
 ·exact Z4
 rotate_left
 ·exact Z0
 refine pure_ (i := 13) (N := some 18) (v := ?_) (a' := ?_) (bl 24 16383) rfl rfl (by kernel_rfl) (fun _ _ _ h => h) (Or.inl ⟨by rfl, ?_⟩) ?_ ?_
 rotate_left
 ·exact Z4
 rotate_left
 ·exact Z0
 refine pure_ (i := 15) (N := some 20) (v := ?_) (a' := ?_) (bl 24 49151) rfl rfl (by kernel_rfl) (fun _ _ _ h => h) (Or.inl ⟨by rfl, ?_⟩) ?_ ?_
 rotate_left
 ·exact Z4
 rotate_left
 ·exact Z0
 refine pure_ (i := 16) (N := some 21) (v := ?_) (a' := ?_) (bl 24 114687) rfl rfl (by kernel_rfl) (fun _ _ _ h => h) (Or.inl ⟨by rfl, ?_⟩) ?_ ?_
 rotate_left
 ·exact Z4
 rotate_left
 ·exact Z0
 refine pure_ (i := 17) (N := some 22) (v := ?_) (a' := ?_) (bl 24 245759) rfl rfl (by kernel_rfl) (fun _ _ _ h => h) (Or.inl ⟨by rfl, ?_⟩) ?_ ?_
 rotate_left
 ·exact Z4
 rotate_left
 ·exact Z0
 refine take_ (i := 14) (N := some 19) (v := ?_) (a' := ?_) (bl 24 262143) rfl rfl (by kernel_rfl) (fun _ _ _ h => h) (Or.inl ⟨by rfl, ?_⟩) hHeld ?_ ?_
 rotate_left
 ·exact Z8
 rotate_left
 ·exact Z0
 refine take_ (i := 18) (N := some 23) (v := ?_) (a' := ?_) (bl 24 524287) rfl rfl (by kernel_rfl) (fun _ _ _ h => h) (Or.inl ⟨by rfl, ?_⟩) hHeld ?_ ?_
 rotate_left
 ·exact Z8
 rotate_left
 ·exact Z0
 refine take_ (i := 19) (N := some 24) (v := ?_) (a' := ?_) (bl 24 1048575) rfl rfl (by kernel_rfl) (fun _ _ _ h => h) (Or.inl ⟨by rfl, ?_⟩) hHeld ?_ ?_
 rotate_left
 ·exact Z8
 rotate_left
 ·exact Z0
 refine one_ (i := 20) (N := some 25) (bl 24 2097151) rfl rfl (by kernel_rfl) (by decide) (fun K hK => ?_)
 refine goes_ Tryd.func94 (by kernel_rfl) rfl #[.string ⟨#[48, 35, 63]⟩, .int .u8 ((st.s[st.at_]'hlt).toNat : Int)] (by rfl) rfl rfl Z23 ?_
 with_reducible refine (Tryd.strings_IndexByte _ _ _).mono ?_
 rintro e w2 ⟨rfl, rfl⟩
 refine ⟨_, rfl, ?_⟩
 refine hK.out _ _ ⟨hHeld.1, hHeld.2⟩ (fun hHeld => ?_)
 clear hK K
 refine norm_ (a' := ?_) ?_ ?_
 rotate_left
 ·show Act.put _ (some 25) _ = _
  simp only [Act.put, sA_, s0_, s1_, i64_w, i32_w]
  rfl
 refine pure_ (i := 21) (N := some 26) (v := ?_) (a' := ?_) (bl 24 4194303) rfl rfl (by kernel_rfl) (fun _ _ _ h => h) (Or.inl ⟨by rfl, ?_⟩) ?_ ?_
 rotate_left
 ·exact Z4
 rotate_left
 ·exact Z0
 refine pure_ (i := 22) (N := some 27) (v := ?_) (a' := ?_) (bl 24 8388607) rfl rfl (by kernel_rfl) (fun _ _ _ h => h) (Or.inl ⟨by rfl, ?_⟩) ?_ ?_
 rotate_left
 ·exact Z4
 rotate_left
 ·exact Z0
 refine pure_ (i := 23) (N := some 4) (v := ?_) (a' := ?_) (bl 24 16777215) rfl rfl (by kernel_rfl) (fun _ _ _ h => h) (Or.inl ⟨by rfl, ?_⟩) ?_ ?_
 rotate_left
 ·exact Z4
 rotate_left
 ·exact Z0
 refine done_ (by kernel_rfl) ?_
 clear hHeld
 go_wp2
 exact ⟨rfl, rfl, below_drew (Below.refl _ _)⟩
set_option maxRecDepth 100000 in
set_option maxHeartbeats 8000000 in
theorem comma_dg_quoted (R : Nat) (st : RS) (vS vF : Value) (pl : Nat) (w : World) (hs : st.s.size ≤ 2000) (ha : st.at_ ≤ st.s.size) (hlt : st.at_ < st.s.size) (hdg : isDg (st.s[st.at_]'hlt) = true) (hop : st.open_ = true) (hp1 : 1 ≤ pl) (hp2 : pl ≤ st.s.size) (hq : (st.s[pl - 1]'(by omega)).toNat = 44) (h : Rd R w st vS vF) :
  Calls Tryd.prog 98 #[.pointer (some ⟨R, 0, none⟩), .int .i64 pl] w (fun e w' => e = fault 12 pl ∧ Below w.heap.size w w') := by
 have hc0 : w.cell? ⟨R, 0, none⟩ = some (.string st.s) := (blk_cell h.blk 0).trans rfl
 have hc1 : w.cell? ⟨R, 1, none⟩ = some (.int .i64 st.at_) := (blk_cell h.blk 1).trans rfl
 have hc5 : w.cell? ⟨R, 5, none⟩ = some (.bool true) := by rw [← hop]; exact (blk_cell h.blk 5).trans rfl
 have HH := Aside0.mk h
 have HOP := Aside0.mk hop
 have hi0 : (0 : Int) ≤ (st.at_ : Int) := by omega
 have hltb : decide ((st.at_ : Int) < (st.s.size : Int)) = true := decide_eq_true (by omega)
 have hltc : (st.at_ : Int) < (st.s.size : Int) := by omega
 have hdd : decide (0 ≤ Lib.indexByte [48, 35, 63] (st.s[st.at_]'hlt)) = true := (isDg_ix _).trans hdg
 clear hdg
 have hpn : ∀ (t : TypeId) (v : Value) (w : World), (Instr.panic (.iface t v)).run Tryd.prog w = .halt (.panic (.iface t v)) w := fun _ _ _ => rfl
 have hp3 : (0 : Int) ≤ (pl : Int) - 1 := by omega
 have hp4 : (pl : Int) - 1 < (st.s.size : Int) := by omega
 have hp5 : ((pl : Int) - 1).toNat = pl - 1 := by omega
 have hq44 : (((st.s[pl - 1]'(by omega)).toNat : Int) == 44) = true := beq_iff_eq.mpr (by omega)
 clear hq
 clear h hop
 go_enter Tryd.func98, Tryd.ntmps98
 go_wp2
 refine start_ (n := 24) (S := fun w' => w'.cell? ⟨R, 0, none⟩ = some (.string st.s) ∧ w'.cell? ⟨R, 1, none⟩ = some (.int .i64 st.at_)) (ds := []) (bl 24 0) (by kernel_rfl) rfl (by kernel_rfl) ⟨hc0, hc1⟩ (fun hHeld => ?_)
 refine pure_ (i := 0) (N := some 5) (v := ?_) (a' := ?_) (bl 24 1) rfl rfl (by kernel_rfl) (fun _ _ _ h => h) (Or.inl ⟨by rfl, ?_⟩) ?_ ?_
 rotate_left
 ·exact Z4
 rotate_left
 ·exact Z0
 refine pure_ (i := 1) (N := some 6) (v := ?_) (a' := ?_) (bl 24 3) rfl rfl (by kernel_rfl) (fun _ _ _ h => h) (Or.inl ⟨by rfl, ?_⟩) ?_ ?_
 rotate_left
 ·exact Z4
 rotate_left
 ·exact Z0
 refine pure_ (i := 2) (N := some 7) (v := ?_) (a' := ?_) (bl 24 7) rfl rfl (by kernel_rfl) (fun _ _ _ h => h) (Or.inl ⟨by rfl, ?_⟩) ?_ ?_
 rotate_left
 ·exact Z4
 rotate_left
 ·exact Z0
 refine pure_ (i := 4) (N := some 9) (v := ?_) (a' := ?_) (bl 24 23) rfl rfl (by kernel_rfl) (fun _ _ _ h => h) (Or.inl ⟨by rfl, ?_⟩) ?_ ?_
 rotate_left
 ·exact Z4
 rotate_left
 ·exact Z0
 refine pure_ (i := 5) (N := some 10) (v := ?_) (a' := ?_) (bl 24 55) rfl rfl (by kernel_rfl) (fun _ _ _ h => h) (Or.inl ⟨by rfl, ?_⟩) ?_ ?_
 rotate_left
 ·exact Z4
 rotate_left
 ·exact Z0
 refine pure_ (i := 6) (N := some 11) (v := ?_) (a' := ?_) (bl 24 119) rfl rfl (by kernel_rfl) (fun _ _ _ h => h) (Or.inl ⟨by rfl, ?_⟩) ?_ ?_
 rotate_left
 ·exact Z4
 rotate_left
 ·exact Z0
 refine take_ (i := 3) (N := some 8) (v := ?_) (a' := ?_) (bl 24 127) rfl rfl (by kernel_rfl) (fun _ _ _ h => h) (Or.inl ⟨by rfl, ?_⟩) hHeld ?_ ?_
 rotate_left
 ·exact Z8
 rotate_left
 ·exact Z0
 refine take_ (i := 7) (N := some 12) (v := ?_) (a' := ?_) (bl 24 255) rfl rfl (by kernel_rfl) (fun _ _ _ h => h) (Or.inl ⟨by rfl, ?_⟩) hHeld ?_ ?_
 rotate_left
 ·exact Z8
 rotate_left
 ·exact Z0
 refine pure_ (i := 8) (N := some 13) (v := ?_) (a' := ?_) (bl 24 511) rfl rfl (by kernel_rfl) (fun _ _ _ h => h) (Or.inl ⟨by rfl, ?_⟩) ?_ ?_
 rotate_left
 ·exact Z4
 rotate_left
 ·exact Z0
 refine pure_ (i := 9) (N := some 14) (v := ?_) (a' := ?_) (bl 24 1023) rfl rfl (by kernel_rfl) (fun _ _ _ h => h) (Or.inl ⟨by rfl, ?_⟩) ?_ ?_
 rotate_left
 ·exact Z4
 rotate_left
 ·exact Z0
 refine pure_ (i := 10) (N := some 15) (v := ?_) (a' := ?_) (bl 24 2047) rfl rfl (by kernel_rfl) (fun _ _ _ h => h) (Or.inl ⟨by rfl, ?_⟩) ?_ ?_
 rotate_left
 ·exact Z4
 rotate_left
 ·exact Z0
 refine pure_ (i := 11) (N := some 16) (v := ?_) (a' := ?_) (bl 24 4095) rfl rfl (by kernel_rfl) (fun _ _ _ h => h) (Or.inl ⟨by rfl, ?_⟩) ?_ ?_
 rotate_left
 ·exact Z4
 rotate_left
 ·exact Z0
 refine pure_ (i := 12) (N := some 17) (v := ?_) (a' := ?_) (bl 24 8191) rfl rfl (by kernel_rfl) (fun _ _ _ h => h) (Or.inl ⟨by rfl, ?_⟩) ?_ ?_
 rotate_left
 ·exact Z4
 rotate_left
 ·exact Z0
 refine pure_ (i := 13) (N := some 18) (v := ?_) (a' := ?_) (bl 24 16383) rfl rfl (by kernel_rfl) (fun _ _ _ h => h) (Or.inl ⟨by rfl, ?_⟩) ?_ ?_
 rotate_left
 ·exact Z4
 rotate_left
 ·exact Z0
 refine pure_ (i := 15) (N := some 20) (v := ?_) (a' := ?_) (bl 24 49151) rfl rfl (by kernel_rfl) (fun _ _ _ h => h) (Or.inl ⟨by rfl, ?_⟩) ?_ ?_
 rotate_left
 ·exact Z4
 rotate_left
 ·exact Z0
 refine pure_ (i := 16) (N := some 21) (v := ?_) (a' := ?_) (bl 24 114687) rfl rfl (by kernel_rfl) (fun _ _ _ h => h) (Or.inl ⟨by rfl, ?_⟩) ?_ ?_
 rotate_left
 ·exact Z4
 rotate_left
 ·exact Z0
 refine pure_ (i := 17) (N := some 22) (v := ?_) (a' := ?_) (bl 24 245759) rfl rfl (by kernel_rfl) (fun _ _ _ h => h) (Or.inl ⟨by rfl, ?_⟩) ?_ ?_
 rotate_left
 ·exact Z4
 rotate_left
 ·exact Z0
 refine take_ (i := 14) (N := some 19) (v := ?_) (a' := ?_) (bl 24 262143) rfl rfl (by kernel_rfl) (fun _ _ _ h => h) (Or.inl ⟨by rfl, ?_⟩) hHeld ?_ ?_
 rotate_left
 ·exact Z8
 rotate_left
 ·exact Z0
 refine take_ (i := 18) (N := some 23) (v := ?_) (a' := ?_) (bl 24 524287) rfl rfl (by kernel_rfl) (fun _ _ _ h => h) (Or.inl ⟨by rfl, ?_⟩) hHeld ?_ ?_
 rotate_left
 ·exact Z8
 rotate_left
 ·exact Z0
 refine take_ (i := 19) (N := some 24) (v := ?_) (a' := ?_) (bl 24 1048575) rfl rfl (by kernel_rfl) (fun _ _ _ h => h) (Or.inl ⟨by rfl, ?_⟩) hHeld ?_ ?_
 rotate_left
 ·exact Z8
 rotate_left
 ·exact Z0
 refine one_ (i := 20) (N := some 25) (bl 24 2097151) rfl rfl (by kernel_rfl) (by decide) (fun K hK => ?_)
 refine goes_ Tryd.func94 (by kernel_rfl) rfl #[.string ⟨#[48, 35, 63]⟩, .int .u8 ((st.s[st.at_]'hlt).toNat : Int)] (by rfl) rfl rfl Z23 ?_
 with_reducible refine (Tryd.strings_IndexByte _ _ _).mono ?_
 rintro e w2 ⟨rfl, rfl⟩
 refine ⟨_, rfl, ?_⟩
 refine hK.out _ _ ⟨hHeld.1, hHeld.2⟩ (fun hHeld => ?_)
 clear hK K
 refine norm_ (a' := ?_) ?_ ?_
 rotate_left
 ·show Act.put _ (some 25) _ = _
  simp only [Act.put, sA_, s0_, s1_, i64_w, i32_w]
  rfl
 refine pure_ (i := 21) (N := some 26) (v := ?_) (a' := ?_) (bl 24 4194303) rfl rfl (by kernel_rfl) (fun _ _ _ h => h) (Or.inl ⟨by rfl, ?_⟩) ?_ ?_
 rotate_left
 ·exact Z4
 rotate_left
 ·exact Z0
 refine pure_ (i := 22) (N := some 27) (v := ?_) (a' := ?_) (bl 24 8388607) rfl rfl (by kernel_rfl) (fun _ _ _ h => h) (Or.inl ⟨by rfl, ?_⟩) ?_ ?_
 rotate_left
 ·exact Z4
 rotate_left
 ·exact Z0
 refine pure_ (i := 23) (N := some 4) (v := ?_) (a' := ?_) (bl 24 16777215) rfl rfl (by kernel_rfl) (fun _ _ _ h => h) (Or.inl ⟨by rfl, ?_⟩) ?_ ?_
 rotate_left
 ·exact Z4
 rotate_left
 ·exact Z0
 refine done_ (by kernel_rfl) ?_
 clear hHeld
 go_wp2
 exact ⟨rfl, rfl, below_drew (Below.refl _ _)⟩
set_option maxRecDepth 100000 in
set_option maxHeartbeats 8000000 in
theorem comma_dg_grouped (R : Nat) (st : RS) (vS vF : Value) (pl : Nat) (w : World) (hs : st.s.size ≤ 2000) (ha : st.at_ ≤ st.s.size) (hlt : st.at_ < st.s.size) (hdg : isDg (st.s[st.at_]'hlt) = true) (hop : st.open_ = true) (hp1 : 1 ≤ pl) (hp2 : pl ≤ st.s.size) (hq : (st.s[pl - 1]'(by omega)).toNat ≠ 44) (hn : 0 < st.secs.length) (hn4 : st.secs.length ≤ 4) (h : Rd R w st vS vF) :
  Calls Tryd.prog 98 #[.pointer (some ⟨R, 0, none⟩), .int .i64 pl] w (fun e w' => e = .returned (.tuple #[]) ∧ (∃ vS' vF', Rd R w' { st with secs := setLast st.secs { lastSec st.secs with f1 := true } } vS' vF') ∧ Below R w w') := by
 obtain ⟨g, cap, rfl, hgb, hgl, _⟩ := Kd.S_form h.hS hn
 have hc0 : w.cell? ⟨R, 0, none⟩ = some (.string st.s) := (blk_cell h.blk 0).trans rfl
 have hc1 : w.cell? ⟨R, 1, none⟩ = some (.int .i64 st.at_) := (blk_cell h.blk 1).trans rfl
 have hc5 : w.cell? ⟨R, 5, none⟩ = some (.bool true) := by rw [← hop]; exact (blk_cell h.blk 5).trans rfl
 have HH := Aside0.mk h
 have HOP := Aside0.mk hop
 have hi0 : (0 : Int) ≤ (st.at_ : Int) := by omega
 have hltb : decide ((st.at_ : Int) < (st.s.size : Int)) = true := decide_eq_true (by omega)
 have hltc : (st.at_ : Int) < (st.s.size : Int) := by omega
 have hdd : decide (0 ≤ Lib.indexByte [48, 35, 63] (st.s[st.at_]'hlt)) = true := (isDg_ix _).trans hdg
 clear hdg
 have hp3 : (0 : Int) ≤ (pl : Int) - 1 := by omega
 have hp4 : (pl : Int) - 1 < (st.s.size : Int) := by omega
 have hp5 : ((pl : Int) - 1).toNat = pl - 1 := by omega
 have hq44 : (((st.s[pl - 1]'(by omega)).toNat : Int) == 44) = false := beq_eq_false_iff_ne.mpr (by omega)
 clear hq
 clear h hop
 have HSX := Aside0.mk (section_walk R st g cap vF _ hn hn4 (Rd.drew HH.out))
 go_enter Tryd.func98, Tryd.ntmps98
 go_wp2
 refine start_ (n := 24) (S := fun w' => w'.cell? ⟨R, 0, none⟩ = some (.string st.s) ∧ w'.cell? ⟨R, 1, none⟩ = some (.int .i64 st.at_)) (ds := []) (bl 24 0) (by kernel_rfl) rfl (by kernel_rfl) ⟨hc0, hc1⟩ (fun hHeld => ?_)
 refine pure_ (i := 0) (N := some 5) (v := ?_) (a' := ?_) (bl 24 1) rfl rfl (by kernel_rfl) (fun _ _ _ h => h) (Or.inl ⟨by rfl, ?_⟩) ?_ ?_
 rotate_left
 ·exact Z4
 rotate_left
 ·exact Z0
 refine pure_ (i := 1) (N := some 6) (v := ?_) (a' := ?_) (bl 24 3) rfl rfl (by kernel_rfl) (fun _ _ _ h => h) (Or.inl ⟨by rfl, ?_⟩) ?_ ?_
 rotate_left
 ·exact Z4
 rotate_left
 ·exact Z0
 refine pure_ (i := 2) (N := some 7) (v := ?_) (a' := ?_) (bl 24 7) rfl rfl (by kernel_rfl) (fun _ _ _ h => h) (Or.inl ⟨by rfl, ?_⟩) ?_ ?_
 rotate_left
 ·exact Z4
 rotate_left
 ·exact Z0
 refine pure_ (i := 4) (N := some 9) (v := ?_) (a' := ?_) (bl 24 23) rfl rfl (by kernel_rfl) (fun _ _ _ h => h) (Or.inl ⟨by rfl, ?_⟩) ?_ ?_
 rotate_left
 ·exact Z4
 rotate_left
 ·exact Z0
 refine pure_ (i := 5) (N := some 10) (v := ?_) (a' := ?_) (bl 24 55) rfl rfl (by kernel_rfl) (fun _ _ _ h => h) (Or.inl ⟨by rfl, ?_⟩) ?_ ?_
 rotate_left
 ·exact Z4
 rotate_left
 ·exact Z0
 refine pure_ (i := 6) (N := some 11) (v := ?_) (a' := ?_) (bl 24 119) rfl rfl (by kernel_rfl) (fun _ _ _ h => h) (Or.inl ⟨by rfl, ?_⟩) ?_ ?_
 rotate_left
 ·exact Z4
 rotate_left
 ·exact Z0
 refine take_ (i := 3) (N := some 8) (v := ?_) (a' := ?_) (bl 24 127) rfl rfl (by kernel_rfl) (fun _ _ _ h => h) (Or.inl ⟨by rfl, ?_⟩) hHeld ?_ ?_
 rotate_left
 ·exact Z8
 rotate_left
 ·exact Z0
 refine take_ (i := 7) (N := some 12) (v := ?_) (a' := ?_) (bl 24 255) rfl rfl (by kernel_rfl) (fun _ _ _ h => h) (Or.inl ⟨by rfl, ?_⟩) hHeld ?_ ?_
 rotate_left
 ·exact Z8
 rotate_left
 ·exact Z0
 refine pure_ (i := 8) (N := some 13) (v := ?_) (a' := ?_) (bl 24 511) rfl rfl (by kernel_rfl) (fun _ _ _ h => h) (Or.inl ⟨by rfl, ?_⟩) ?_ ?_
 rotate_left
 ·exact Z4
 rotate_left
 ·exact Z0
 refine pure_ (i := 9) (N := some 14) (v := ?_) (a' := ?_) (bl 24 1023) rfl rfl (by kernel_rfl) (fun _ _ _ h => h) (Or.inl ⟨by rfl, ?_⟩) ?_ ?_
 rotate_left
 ·exact Z4
 rotate_left
 ·exact Z0
 refine pure_ (i := 10) (N := some 15) (v := ?_) (a' := ?_) (bl 24 2047) rfl rfl (by kernel_rfl) (fun _ _ _ h => h) (Or.inl ⟨by rfl, ?_⟩) ?_ ?_
 rotate_left
 ·exact Z4
 rotate_left
 ·exact Z0
 refine pure_ (i := 11) (N := some 16) (v := ?_) (a' := ?_) (bl 24 4095) rfl rfl (by kernel_rfl) (fun _ _ _ h => h) (Or.inl ⟨by rfl, ?_⟩) ?_ ?_
 rotate_left
 ·exact Z4
 rotate_left
 ·exact Z0
 refine pure_ (i := 12) (N := some 17) (v := ?_) (a' := ?_) (bl 24 8191) rfl rfl (by kernel_rfl) (fun _ _ _ h => h) (Or.inl ⟨by rfl, ?_⟩) ?_ ?_
 rotate_left
 ·exact Z4
 rotate_left
 ·exact Z0
 refine pure_ (i := 13) (N := some 18) (v := ?_) (a' := ?_) (bl 24 16383) rfl rfl (by kernel_rfl) (fun _ _ _ h => h) (Or.inl ⟨by rfl, ?_⟩) ?_ ?_
 rotate_left
 ·exact Z4
 rotate_left
 ·exact Z0
 refine pure_ (i := 15) (N := some 20) (v := ?_) (a' := ?_) (bl 24 49151) rfl rfl (by kernel_rfl) (fun _ _ _ h => h) (Or.inl ⟨by rfl, ?_⟩) ?_ ?_
 rotate_left
 ·exact Z4
 rotate_left
 ·exact Z0
 refine pure_ (i := 16) (N := some 21) (v := ?_) (a' := ?_) (bl 24 114687) rfl rfl (by kernel_rfl) (fun _ _ _ h => h) (Or.inl ⟨by rfl, ?_⟩) ?_ ?_
 rotate_left
 ·exact Z4
 rotate_left
 ·exact Z0
 refine pure_ (i := 17) (N := some 22) (v := ?_) (a' := ?_) (bl 24 245759) rfl rfl (by kernel_rfl) (fun _ _ _ h => h) (Or.inl ⟨by rfl, ?_⟩) ?_ ?_
 rotate_left
 ·exact Z4
 rotate_left
 ·exact Z0
 refine take_ (i := 14) (N := some 19) (v := ?_) (a' := ?_) (bl 24 262143) rfl rfl (by kernel_rfl) (fun _ _ _ h => h) (Or.inl ⟨by rfl, ?_⟩) hHeld ?_ ?_
 rotate_left
 ·exact Z8
 rotate_left
 ·exact Z0
 refine take_ (i := 18) (N := some 23) (v := ?_) (a' := ?_) (bl 24 524287) rfl rfl (by kernel_rfl) (fun _ _ _ h => h) (Or.inl ⟨by rfl, ?_⟩) hHeld ?_ ?_
 rotate_left
 ·exact Z8
 rotate_left
 ·exact Z0
 refine take_ (i := 19) (N := some 24) (v := ?_) (a' := ?_) (bl 24 1048575) rfl rfl (by kernel_rfl) (fun _ _ _ h => h) (Or.inl ⟨by rfl, ?_⟩) hHeld ?_ ?_
 rotate_left
 ·exact Z8
 rotate_left
 ·exact Z0
 refine one_ (i := 20) (N := some 25) (bl 24 2097151) rfl rfl (by kernel_rfl) (by decide) (fun K hK => ?_)
 refine goes_ Tryd.func94 (by kernel_rfl) rfl #[.string ⟨#[48, 35, 63]⟩, .int .u8 ((st.s[st.at_]'hlt).toNat : Int)] (by rfl) rfl rfl Z23 ?_
 with_reducible refine (Tryd.strings_IndexByte _ _ _).mono ?_
 rintro e w2 ⟨rfl, rfl⟩
 refine ⟨_, rfl, ?_⟩
 refine hK.out _ _ ⟨hHeld.1, hHeld.2⟩ (fun hHeld => ?_)
 clear hK K
 refine norm_ (a' := ?_) ?_ ?_
 rotate_left
 ·show Act.put _ (some 25) _ = _
  simp only [Act.put, sA_, s0_, s1_, i64_w, i32_w]
  rfl
 refine pure_ (i := 21) (N := some 26) (v := ?_) (a' := ?_) (bl 24 4194303) rfl rfl (by kernel_rfl) (fun _ _ _ h => h) (Or.inl ⟨by rfl, ?_⟩) ?_ ?_
 rotate_left
 ·exact Z4
 rotate_left
 ·exact Z0
 refine pure_ (i := 22) (N := some 27) (v := ?_) (a' := ?_) (bl 24 8388607) rfl rfl (by kernel_rfl) (fun _ _ _ h => h) (Or.inl ⟨by rfl, ?_⟩) ?_ ?_
 rotate_left
 ·exact Z4
 rotate_left
 ·exact Z0
 refine pure_ (i := 23) (N := some 4) (v := ?_) (a' := ?_) (bl 24 16777215) rfl rfl (by kernel_rfl) (fun _ _ _ h => h) (Or.inl ⟨by rfl, ?_⟩) ?_ ?_
 rotate_left
 ·exact Z4
 rotate_left
 ·exact Z0
 refine done_ (by kernel_rfl) ?_
 clear hHeld
 go_wp2_with (fail)
 (with_reducible refine HSX.out.mono ?_)
 rintro e w2 ⟨rfl, ⟨m, rfl⟩⟩
 have HR2 := Aside0.mk (Rd.drewN (Rd.drew HH.out) m)
 have HB2 := Aside0.mk (pw_below_drewN (below_drew (Below.refl R w)) m)
 clear HSX hc0 hc1 hc5 HH
 generalize w.drew.drewN m = W2 at HR2 HB2 ⊢
 obtain ⟨oki, c, hcl, hM, hcc, hfr, hoki, hH⟩ := Kd.S_elem HR2.out.hS z62 ((st.secs.length - 1 : Nat) : Int) (by omega) (by omega)
 rw [Int.toNat_natCast] at hM hcc hfr
 replace hM : k62.M W2 (R + 1) oki (lastSec st.secs) c := hM
 obtain ⟨v0, rfl, hv0⟩ := k62_openM hM
 have HV0 := Aside0.mk hv0
 have HH2 := Aside0.mk hH
 have hx1 := hcc 1 _ rfl
 rw [show k62.sz = 3 from rfl] at hx1
 have hgR : ¬ g = R := by omega
 have hs2 := blk_lt HR2.out.blk
 clear hM hcc hfr hoki hv0 hH hcl
 go_wp2_with ((with_reducible refine gate_store (t := 4) (p := 61) rfl ?_); refine Kd.H_store k62 (w0 := W2) (R + 1) rfl rfl 4 (.tmp 61) (.const (.bool true)) rfl 62 ((st.secs.length - 1 : Nat) : Int) 1 st.secs { lastSec st.secs with f1 := true } (.bool true) [.bool true] [v0, .bool (lastSec st.secs).f1, .int .i64 (lastSec st.secs).f2] (fun _ => True) oki oki rfl (by rw [Int.toNat_natCast]; rfl) rfl rfl (show _ = some 1 from by kernel_rfl) (by simp [Value.oneCell']) HH2.out (by omega) (by omega) (by show 1 + 1 ≤ 3; omega) (k62_mkM _ _ _ _ HV0.out) (fun _ hk => hk) (Below.refl _ _) ?_; intro w4 hs4 hb4 hg4; rw [Int.toNat_natCast] at hs4; have HS4 := Aside0.mk (show Kd.S k62 62 w4 (R + 1) (fun _ => True) (.slice (some ⟨g, 0, none⟩) st.secs.length cap) (setLast st.secs { lastSec st.secs with f1 := true }) from hs4); have HBLK4 := Aside0.mk (blk_grown HR2.out.blk hg4 (by simp; omega)); have HF4 := Aside0.mk (Kd.R_over' (e' := 62) (v := .slice (some ⟨g, 0, none⟩) st.secs.length cap) HR2.out.hF (Kd.S_typed HR2.out.hS) (by decide) hg4); have HB4 := Aside0.mk (HB2.out.trans (hb4.mono (Nat.le_succ R))); clear hs4 hb4 hg4)
 go_end0
 exact ⟨rfl, ⟨_, _, ⟨HBLK4.out, HS4.out, HF4.out⟩⟩, HB4.out⟩
end Go.Proofs.YtmbhjogohfcjgaaDoor.P
