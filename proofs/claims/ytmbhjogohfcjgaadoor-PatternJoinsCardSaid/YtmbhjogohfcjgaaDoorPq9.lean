/- The walk of reader.one at a quoted text, and the whole (written by wip/tools/genone.py). -/
import Derived.Test.YtmbhjogohfcjgaaDoorPq8
namespace Go.Proofs.YtmbhjogohfcjgaaDoor.P
open Go.RowKit Go.Proofs.YtmbhjogohfcjgaaDoorW.PrintWords Go.Proofs.YtmbhjogohfcjgaaDoorW.PrintLast Go.Proofs.YtmbhjogohfcjgaaDoorW.PrintMore
set_option linter.unusedVariables false
set_option linter.unusedSimpArgs false
theorem nextQ_walk (st : RS) (n : Int) (hn : nextQ st = n) (W : World) : Calls Tryd.prog 94 #[.string (st.s.extract st.at_ st.s.size), .int .u8 34] W fun e w' => e = .returned (.int .i64 n) ∧ w' = W := by
 subst hn
 exact Tryd.strings_IndexByte _ _ W
theorem valid_walk (s : ByteArray) (W : World) (b : Bool) (hs : s.size ≤ 9223372036854775807) (hG : GL W) (hb : Lib.validD s.data.toList = b) : Calls Tryd.prog 95 #[.string s] W fun e w' => e = .returned (.bool b) ∧ Below W.heap.size W w' := by
 subst hb
 exact Tryd.utf8_ValidString s W hs hG.tabs
set_option maxRecDepth 100000 in
set_option maxHeartbeats 8000000 in
theorem one_quote_none (R : Nat) (st : RS) (vS vF : Value) (w : World) (hGL : GL w) (hR5 : 5 ≤ R) (hI : Inv st) (hlt : st.at_ < st.s.size) (k59 : (((st.s[st.at_]'hlt).toNat : Int) == 59) = false) (k34 : (((st.s[st.at_]'hlt).toNat : Int) == 34) = true) (hn : nextQ { st with at_ := st.at_ + 1 } < 0) (h : Rd R w st vS vF) :
  Calls Tryd.prog 68 #[.pointer (some ⟨R, 0, none⟩)] w (Res R w (quoteM st.at_ { st with at_ := st.at_ + 1 })) := by
 have hc0 := h.c0
 have hc1 := h.c1
 have hf1 := blk_frozen h.blk 1
 have HA := Aside0.mk h.at1
 have hd0 := HA.out.hr.c0
 have hd1 := HA.out.hr.c1.trans (show _ = some (Value.int .i64 ((st.at_ : Int) + 1)) by simp)
 have hsz := hI.sz
 have hi0 : (0 : Int) ≤ (st.at_ : Int) := by omega
 have hltc : (st.at_ : Int) < (st.s.size : Int) := by omega
 have hI1 : Inv { st with at_ := st.at_ + 1 } := hI.at_ (st.at_ + 1) (by omega) (by omega)
 have HI := Aside0.mk hI1
 have HG := Aside0.mk hGL
 have HR5 := Aside0.mk hR5
 have HIS := Aside0.mk hI
 clear h hI hI1 hGL hR5
 unfold quoteM
 rw [if_pos hn]
 have hx1 : (0 : Int) ≤ (st.at_ : Int) + 1 := by omega
 have hx2 : (st.at_ : Int) + 1 ≤ (st.s.size : Int) := by omega
 have hx4 : ((st.at_ : Int) + 1).toNat = st.at_ + 1 := by omega
 have hpn : ∀ (t : TypeId) (v : Value) (w : World), (Instr.panic (.iface t v)).run Tryd.prog w = .halt (.panic (.iface t v)) w := fun _ _ _ => rfl
 obtain ⟨n, hnn⟩ : ∃ n, nextQ { st with at_ := st.at_ + 1 } = n := ⟨_, rfl⟩
 rw [hnn] at hn
 have HX := Aside0.mk (nextQ_walk { st with at_ := st.at_ + 1 } n hnn)
 clear hnn
 have hnb : decide (n < 0) = true := decide_eq_true hn
 clear hn
 go_enter Tryd.func68, Tryd.ntmps68
 go_wp2_with (fail)
 refine start_ (n := 11) (S := fun w' => w'.cell? ⟨R, 0, none⟩ = some (.string st.s) ∧ w'.cell? ⟨R, 1, none⟩ = some (.int .i64 ((st.at_ : Int) + 1))) (ds := []) (bl 11 0) (by kernel_rfl) rfl (by kernel_rfl) ⟨hd0, hd1⟩ (fun hHeld => ?_)
 refine pure_ (i := 0) (N := some 35) (v := ?_) (a' := ?_) (bl 11 1) rfl rfl (by kernel_rfl) (fun _ _ _ h => h) (Or.inl ⟨by rfl, ?_⟩) ?_ ?_
 rotate_left
 ·exact Z4
 rotate_left
 ·exact Z0
 refine pure_ (i := 1) (N := some 36) (v := ?_) (a' := ?_) (bl 11 3) rfl rfl (by kernel_rfl) (fun _ _ _ h => h) (Or.inl ⟨by rfl, ?_⟩) ?_ ?_
 rotate_left
 ·exact Z4
 rotate_left
 ·exact Z0
 refine pure_ (i := 2) (N := some 37) (v := ?_) (a' := ?_) (bl 11 7) rfl rfl (by kernel_rfl) (fun _ _ _ h => h) (Or.inl ⟨by rfl, ?_⟩) ?_ ?_
 rotate_left
 ·exact Z4
 rotate_left
 ·exact Z0
 refine pure_ (i := 4) (N := some 39) (v := ?_) (a' := ?_) (bl 11 23) rfl rfl (by kernel_rfl) (fun _ _ _ h => h) (Or.inl ⟨by rfl, ?_⟩) ?_ ?_
 rotate_left
 ·exact Z4
 rotate_left
 ·exact Z0
 refine pure_ (i := 5) (N := some 40) (v := ?_) (a' := ?_) (bl 11 55) rfl rfl (by kernel_rfl) (fun _ _ _ h => h) (Or.inl ⟨by rfl, ?_⟩) ?_ ?_
 rotate_left
 ·exact Z4
 rotate_left
 ·exact Z0
 refine pure_ (i := 6) (N := some 41) (v := ?_) (a' := ?_) (bl 11 119) rfl rfl (by kernel_rfl) (fun _ _ _ h => h) (Or.inl ⟨by rfl, ?_⟩) ?_ ?_
 rotate_left
 ·exact Z4
 rotate_left
 ·exact Z0
 refine take_ (i := 3) (N := some 38) (v := ?_) (a' := ?_) (bl 11 127) rfl rfl (by kernel_rfl) (fun _ _ _ h => h) (Or.inl ⟨by rfl, ?_⟩) hHeld ?_ ?_
 rotate_left
 ·exact Z8
 rotate_left
 ·exact Z0
 refine take_ (i := 7) (N := some 42) (v := ?_) (a' := ?_) (bl 11 255) rfl rfl (by kernel_rfl) (fun _ _ _ h => h) (Or.inl ⟨by rfl, ?_⟩) hHeld ?_ ?_
 rotate_left
 ·exact Z8
 rotate_left
 ·exact Z0
 refine pure_ (i := 8) (N := some 43) (v := ?_) (a' := ?_) (bl 11 511) rfl rfl (by kernel_rfl) (fun _ _ _ h => h) (Or.inl ⟨by rfl, ?_⟩) ?_ ?_
 rotate_left
 ·exact Z4
 rotate_left
 ·exact Z0
 refine one_ (i := 9) (N := some 44) (bl 11 1023) rfl rfl (by kernel_rfl) (by decide) (fun K hK => ?_)
 refine goes_ Tryd.func94 (by kernel_rfl) rfl #[.string (st.s.extract (st.at_ + 1) st.s.size), .int .u8 34] (by rfl) rfl rfl Z23 ?_
 with_reducible refine (HX.out _).mono ?_
 rintro e w2 ⟨rfl, rfl⟩
 refine ⟨_, rfl, ?_⟩
 refine hK.out _ _ ⟨hHeld.1, hHeld.2⟩ (fun hHeld => ?_)
 clear hK K
 refine norm_ (a' := ?_) ?_ ?_
 rotate_left
 ·show Act.put _ (some 44) _ = _
  simp only [Act.put, sA_, s0_, s1_, i64_w, i32_w]
  rfl
 refine pure_ (i := 10) (N := some 4) (v := ?_) (a' := ?_) (bl 11 2047) rfl rfl (by kernel_rfl) (fun _ _ _ h => h) (Or.inl ⟨by rfl, ?_⟩) ?_ ?_
 rotate_left
 ·exact Z4
 rotate_left
 ·exact Z0
 refine done_ (by kernel_rfl) ?_
 clear hHeld
 go_wp2_with (fail)
 refine start_ (n := 21) (S := fun w' => w'.cell? ⟨R, 0, none⟩ = some (.string st.s) ∧ w'.cell? ⟨R, 1, none⟩ = some (.int .i64 ((st.at_ : Int) + 1))) (ds := []) (bl 21 0) (by kernel_rfl) rfl (by kernel_rfl) ⟨hd0, hd1⟩ (fun hHeld => ?_)
 refine pure_ (i := 0) (N := some 45) (v := ?_) (a' := ?_) (bl 21 1) rfl rfl (by kernel_rfl) (fun _ _ _ h => h) (Or.inl ⟨by rfl, ?_⟩) ?_ ?_
 rotate_left
 ·exact Z4
 rotate_left
 ·exact Z0
 refine pure_ (i := 1) (N := some 46) (v := ?_) (a' := ?_) (bl 21 3) rfl rfl (by kernel_rfl) (fun _ _ _ h => h) (Or.inl ⟨by rfl, ?_⟩) ?_ ?_
 rotate_left
 ·exact Z4
 rotate_left
 ·exact Z0
 refine pure_ (i := 2) (N := some 47) (v := ?_) (a' := ?_) (bl 21 7) rfl rfl (by kernel_rfl) (fun _ _ _ h => h) (Or.inl ⟨by rfl, ?_⟩) ?_ ?_
 rotate_left
 ·exact Z4
 rotate_left
 ·exact Z0
 refine pure_ (i := 3) (N := some 48) (v := undef) (a' := ?_) (bl 21 15) rfl rfl (by kernel_rfl) (fun _ _ _ h => h) (Or.inr ⟨by rfl, rfl⟩) ?_ ?_
 rotate_left
 ·exact Z0
 refine pure_ (i := 4) (N := some 49) (v := undef) (a' := ?_) (bl 21 31) rfl rfl (by kernel_rfl) (fun _ _ _ h => h) (Or.inr ⟨by rfl, rfl⟩) ?_ ?_
 rotate_left
 ·exact Z0
 refine pure_ (i := 5) (N := some 50) (v := undef) (a' := ?_) (bl 21 63) rfl rfl (by kernel_rfl) (fun _ _ _ h => h) (Or.inr ⟨by rfl, rfl⟩) ?_ ?_
 rotate_left
 ·exact Z0
 refine pure_ (i := 6) (N := some 51) (v := undef) (a' := ?_) (bl 21 127) rfl rfl (by kernel_rfl) (fun _ _ _ h => h) (Or.inr ⟨by rfl, rfl⟩) ?_ ?_
 rotate_left
 ·exact Z0
 refine pure_ (i := 7) (N := some 52) (v := undef) (a' := ?_) (bl 21 255) rfl rfl (by kernel_rfl) (fun _ _ _ h => h) (Or.inr ⟨by rfl, rfl⟩) ?_ ?_
 rotate_left
 ·exact Z0
 refine pure_ (i := 8) (N := some 53) (v := undef) (a' := ?_) (bl 21 511) rfl rfl (by kernel_rfl) (fun _ _ _ h => h) (Or.inr ⟨by rfl, rfl⟩) ?_ ?_
 rotate_left
 ·exact Z0
 refine pure_ (i := 9) (N := some 54) (v := undef) (a' := ?_) (bl 21 1023) rfl rfl (by kernel_rfl) (fun _ _ _ h => h) (Or.inr ⟨by rfl, rfl⟩) ?_ ?_
 rotate_left
 ·exact Z0
 refine pure_ (i := 10) (N := some 55) (v := undef) (a' := ?_) (bl 21 2047) rfl rfl (by kernel_rfl) (fun _ _ _ h => h) (Or.inr ⟨by rfl, rfl⟩) ?_ ?_
 rotate_left
 ·exact Z0
 refine pure_ (i := 11) (N := some 56) (v := undef) (a' := ?_) (bl 21 4095) rfl rfl (by kernel_rfl) (fun _ _ _ h => h) (Or.inr ⟨by rfl, rfl⟩) ?_ ?_
 rotate_left
 ·exact Z0
 refine pure_ (i := 12) (N := some 57) (v := undef) (a' := ?_) (bl 21 8191) rfl rfl (by kernel_rfl) (fun _ _ _ h => h) (Or.inr ⟨by rfl, rfl⟩) ?_ ?_
 rotate_left
 ·exact Z0
 refine pure_ (i := 13) (N := some 58) (v := undef) (a' := ?_) (bl 21 16383) rfl rfl (by kernel_rfl) (fun _ _ _ h => h) (Or.inr ⟨by rfl, rfl⟩) ?_ ?_
 rotate_left
 ·exact Z0
 refine pure_ (i := 14) (N := some 59) (v := undef) (a' := ?_) (bl 21 32767) rfl rfl (by kernel_rfl) (fun _ _ _ h => h) (Or.inr ⟨by rfl, rfl⟩) ?_ ?_
 rotate_left
 ·exact Z0
 refine pure_ (i := 15) (N := some 60) (v := undef) (a' := ?_) (bl 21 65535) rfl rfl (by kernel_rfl) (fun _ _ _ h => h) (Or.inr ⟨by rfl, rfl⟩) ?_ ?_
 rotate_left
 ·exact Z0
 refine pure_ (i := 16) (N := some 61) (v := undef) (a' := ?_) (bl 21 131071) rfl rfl (by kernel_rfl) (fun _ _ _ h => h) (Or.inr ⟨by rfl, rfl⟩) ?_ ?_
 rotate_left
 ·exact Z0
 refine pure_ (i := 17) (N := some 62) (v := undef) (a' := ?_) (bl 21 262143) rfl rfl (by kernel_rfl) (fun _ _ _ h => h) (Or.inr ⟨by rfl, rfl⟩) ?_ ?_
 rotate_left
 ·exact Z0
 refine pure_ (i := 18) (N := some 63) (v := undef) (a' := ?_) (bl 21 524287) rfl rfl (by kernel_rfl) (fun _ _ _ h => h) (Or.inr ⟨by rfl, rfl⟩) ?_ ?_
 rotate_left
 ·exact Z0
 refine pure_ (i := 19) (N := some 64) (v := undef) (a' := ?_) (bl 21 1048575) rfl rfl (by kernel_rfl) (fun _ _ _ h => h) (Or.inr ⟨by rfl, rfl⟩) ?_ ?_
 rotate_left
 ·exact Z0
 refine pure_ (i := 20) (N := some 65) (v := ?_) (a' := ?_) (bl 21 2097151) rfl rfl (by kernel_rfl) (fun _ _ _ h => h) (Or.inl ⟨by rfl, ?_⟩) ?_ ?_
 rotate_left
 ·exact Z4
 rotate_left
 ·exact Z0
 refine done_ (by kernel_rfl) ?_
 clear hHeld
 go_wp2
 exact ⟨rfl, And.intro rfl (below_drew (below_drew HA.out.hb))⟩
set_option maxRecDepth 100000 in
set_option maxHeartbeats 8000000 in
theorem one_quote_bad (R : Nat) (st : RS) (vS vF : Value) (w : World) (hGL : GL w) (hR5 : 5 ≤ R) (hI : Inv st) (hlt : st.at_ < st.s.size) (k59 : (((st.s[st.at_]'hlt).toNat : Int) == 59) = false) (k34 : (((st.s[st.at_]'hlt).toNat : Int) == 34) = true) (k : Nat) (hk : nextQ { st with at_ := st.at_ + 1 } = k) (hv : Lib.validD (st.s.extract (st.at_ + 1) (st.at_ + 1 + k)).data.toList = false) (h : Rd R w st vS vF) :
  Calls Tryd.prog 68 #[.pointer (some ⟨R, 0, none⟩)] w (Res R w (quoteM st.at_ { st with at_ := st.at_ + 1 })) := by
 have hc0 := h.c0
 have hc1 := h.c1
 have hf1 := blk_frozen h.blk 1
 have HA := Aside0.mk h.at1
 have hd0 := HA.out.hr.c0
 have hd1 := HA.out.hr.c1.trans (show _ = some (Value.int .i64 ((st.at_ : Int) + 1)) by simp)
 have hsz := hI.sz
 have hi0 : (0 : Int) ≤ (st.at_ : Int) := by omega
 have hltc : (st.at_ : Int) < (st.s.size : Int) := by omega
 have hI1 : Inv { st with at_ := st.at_ + 1 } := hI.at_ (st.at_ + 1) (by omega) (by omega)
 have HI := Aside0.mk hI1
 have HG := Aside0.mk hGL
 have HR5 := Aside0.mk hR5
 have HIS := Aside0.mk hI
 clear h hI hI1 hGL hR5
 unfold quoteM
 rw [if_neg (by rw [hk]; omega), hk, Int.toNat_natCast, if_pos (show _ = false from hv)]
 have hx1 : (0 : Int) ≤ (st.at_ : Int) + 1 := by omega
 have hx2 : (st.at_ : Int) + 1 ≤ (st.s.size : Int) := by omega
 have hx4 : ((st.at_ : Int) + 1).toNat = st.at_ + 1 := by omega
 have hpn : ∀ (t : TypeId) (v : Value) (w : World), (Instr.panic (.iface t v)).run Tryd.prog w = .halt (.panic (.iface t v)) w := fun _ _ _ => rfl
 have hn0 : decide ((k : Int) < 0) = false := decide_eq_false (by omega)
 have hk1 := nextQ_lt { st with at_ := st.at_ + 1 } hlt (by rw [hk]; omega)
 rw [hk, Int.toNat_natCast] at hk1
 have hk2 : st.at_ + 1 + k ≤ st.s.size := hk1
 have HX := Aside0.mk (nextQ_walk { st with at_ := st.at_ + 1 } k hk)
 clear hk hk1
 have hx5 : (st.at_ : Int) + 1 ≤ (st.at_ : Int) + 1 + (k : Int) := by omega
 have hx6 : (st.at_ : Int) + 1 + (k : Int) ≤ (st.s.size : Int) := by omega
 have hx7 : ((st.at_ : Int) + 1 + (k : Int)).toNat = st.at_ + 1 + k := by omega
 have hx8 : wrap64 ((st.at_ : Int) + 1 + (k : Int)) = (st.at_ : Int) + 1 + (k : Int) := by unfold wrap64; omega
 have HV := Aside0.mk (fun W (hr : Rd R W { st with at_ := st.at_ + 1 } vS vF) (hb : Below R w W) => valid_walk (st.s.extract (st.at_ + 1) (st.at_ + 1 + k)) W false (by rw [ByteArray.size_extract]; omega) (HG.out.belowR HR5.out hb) hv)
 clear hv
 have HZ := Aside0.mk (Nat.le_of_lt (blk_lt (Rd.drew (Rd.drew HA.out.hr)).blk))
 go_enter Tryd.func68, Tryd.ntmps68
 go_wp2_with (fail)
 refine start_ (n := 11) (S := fun w' => w'.cell? ⟨R, 0, none⟩ = some (.string st.s) ∧ w'.cell? ⟨R, 1, none⟩ = some (.int .i64 ((st.at_ : Int) + 1))) (ds := []) (bl 11 0) (by kernel_rfl) rfl (by kernel_rfl) ⟨hd0, hd1⟩ (fun hHeld => ?_)
 refine pure_ (i := 0) (N := some 35) (v := ?_) (a' := ?_) (bl 11 1) rfl rfl (by kernel_rfl) (fun _ _ _ h => h) (Or.inl ⟨by rfl, ?_⟩) ?_ ?_
 rotate_left
 ·exact Z4
 rotate_left
 ·exact Z0
 refine pure_ (i := 1) (N := some 36) (v := ?_) (a' := ?_) (bl 11 3) rfl rfl (by kernel_rfl) (fun _ _ _ h => h) (Or.inl ⟨by rfl, ?_⟩) ?_ ?_
 rotate_left
 ·exact Z4
 rotate_left
 ·exact Z0
 refine pure_ (i := 2) (N := some 37) (v := ?_) (a' := ?_) (bl 11 7) rfl rfl (by kernel_rfl) (fun _ _ _ h => h) (Or.inl ⟨by rfl, ?_⟩) ?_ ?_
 rotate_left
 ·exact Z4
 rotate_left
 ·exact Z0
 refine pure_ (i := 4) (N := some 39) (v := ?_) (a' := ?_) (bl 11 23) rfl rfl (by kernel_rfl) (fun _ _ _ h => h) (Or.inl ⟨by rfl, ?_⟩) ?_ ?_
 rotate_left
 ·exact Z4
 rotate_left
 ·exact Z0
 refine pure_ (i := 5) (N := some 40) (v := ?_) (a' := ?_) (bl 11 55) rfl rfl (by kernel_rfl) (fun _ _ _ h => h) (Or.inl ⟨by rfl, ?_⟩) ?_ ?_
 rotate_left
 ·exact Z4
 rotate_left
 ·exact Z0
 refine pure_ (i := 6) (N := some 41) (v := ?_) (a' := ?_) (bl 11 119) rfl rfl (by kernel_rfl) (fun _ _ _ h => h) (Or.inl ⟨by rfl, ?_⟩) ?_ ?_
 rotate_left
 ·exact Z4
 rotate_left
 ·exact Z0
 refine take_ (i := 3) (N := some 38) (v := ?_) (a' := ?_) (bl 11 127) rfl rfl (by kernel_rfl) (fun _ _ _ h => h) (Or.inl ⟨by rfl, ?_⟩) hHeld ?_ ?_
 rotate_left
 ·exact Z8
 rotate_left
 ·exact Z0
 refine take_ (i := 7) (N := some 42) (v := ?_) (a' := ?_) (bl 11 255) rfl rfl (by kernel_rfl) (fun _ _ _ h => h) (Or.inl ⟨by rfl, ?_⟩) hHeld ?_ ?_
 rotate_left
 ·exact Z8
 rotate_left
 ·exact Z0
 refine pure_ (i := 8) (N := some 43) (v := ?_) (a' := ?_) (bl 11 511) rfl rfl (by kernel_rfl) (fun _ _ _ h => h) (Or.inl ⟨by rfl, ?_⟩) ?_ ?_
 rotate_left
 ·exact Z4
 rotate_left
 ·exact Z0
 refine one_ (i := 9) (N := some 44) (bl 11 1023) rfl rfl (by kernel_rfl) (by decide) (fun K hK => ?_)
 refine goes_ Tryd.func94 (by kernel_rfl) rfl #[.string (st.s.extract (st.at_ + 1) st.s.size), .int .u8 34] (by rfl) rfl rfl Z23 ?_
 with_reducible refine (HX.out _).mono ?_
 rintro e w2 ⟨rfl, rfl⟩
 refine ⟨_, rfl, ?_⟩
 refine hK.out _ _ ⟨hHeld.1, hHeld.2⟩ (fun hHeld => ?_)
 clear hK K
 refine norm_ (a' := ?_) ?_ ?_
 rotate_left
 ·show Act.put _ (some 44) _ = _
  simp only [Act.put, sA_, s0_, s1_, i64_w, i32_w]
  rfl
 refine pure_ (i := 10) (N := some 4) (v := ?_) (a' := ?_) (bl 11 2047) rfl rfl (by kernel_rfl) (fun _ _ _ h => h) (Or.inl ⟨by rfl, ?_⟩) ?_ ?_
 rotate_left
 ·exact Z4
 rotate_left
 ·exact Z0
 refine done_ (by kernel_rfl) ?_
 clear hHeld
 go_wp2_with (fail)
 refine start_ (n := 21) (S := fun w' => w'.cell? ⟨R, 0, none⟩ = some (.string st.s) ∧ w'.cell? ⟨R, 1, none⟩ = some (.int .i64 ((st.at_ : Int) + 1))) (ds := [18]) (bl 21 0) (by kernel_rfl) rfl (by kernel_rfl) ⟨hd0, hd1⟩ (fun hHeld => ?_)
 refine pure_ (i := 0) (N := some 45) (v := ?_) (a' := ?_) (bl 21 1) rfl rfl (by kernel_rfl) (fun _ _ _ h => h) (Or.inl ⟨by rfl, ?_⟩) ?_ ?_
 rotate_left
 ·exact Z4
 rotate_left
 ·exact Z0
 refine pure_ (i := 1) (N := some 46) (v := ?_) (a' := ?_) (bl 21 3) rfl rfl (by kernel_rfl) (fun _ _ _ h => h) (Or.inl ⟨by rfl, ?_⟩) ?_ ?_
 rotate_left
 ·exact Z4
 rotate_left
 ·exact Z0
 refine pure_ (i := 2) (N := some 47) (v := ?_) (a' := ?_) (bl 21 7) rfl rfl (by kernel_rfl) (fun _ _ _ h => h) (Or.inl ⟨by rfl, ?_⟩) ?_ ?_
 rotate_left
 ·exact Z4
 rotate_left
 ·exact Z0
 refine pure_ (i := 3) (N := some 48) (v := ?_) (a' := ?_) (bl 21 15) rfl rfl (by kernel_rfl) (fun _ _ _ h => h) (Or.inl ⟨by rfl, ?_⟩) ?_ ?_
 rotate_left
 ·exact Z4
 rotate_left
 ·exact Z0
 refine pure_ (i := 4) (N := some 49) (v := ?_) (a' := ?_) (bl 21 31) rfl rfl (by kernel_rfl) (fun _ _ _ h => h) (Or.inl ⟨by rfl, ?_⟩) ?_ ?_
 rotate_left
 ·exact Z4
 rotate_left
 ·exact Z0
 refine pure_ (i := 5) (N := some 50) (v := ?_) (a' := ?_) (bl 21 63) rfl rfl (by kernel_rfl) (fun _ _ _ h => h) (Or.inl ⟨by rfl, ?_⟩) ?_ ?_
 rotate_left
 ·exact Z4
 rotate_left
 ·exact Z0
 refine pure_ (i := 7) (N := some 52) (v := ?_) (a' := ?_) (bl 21 191) rfl rfl (by kernel_rfl) (fun _ _ _ h => h) (Or.inl ⟨by rfl, ?_⟩) ?_ ?_
 rotate_left
 ·exact Z4
 rotate_left
 ·exact Z0
 refine pure_ (i := 8) (N := some 53) (v := ?_) (a' := ?_) (bl 21 447) rfl rfl (by kernel_rfl) (fun _ _ _ h => h) (Or.inl ⟨by rfl, ?_⟩) ?_ ?_
 rotate_left
 ·exact Z4
 rotate_left
 ·exact Z0
 refine pure_ (i := 9) (N := some 54) (v := ?_) (a' := ?_) (bl 21 959) rfl rfl (by kernel_rfl) (fun _ _ _ h => h) (Or.inl ⟨by rfl, ?_⟩) ?_ ?_
 rotate_left
 ·exact Z4
 rotate_left
 ·exact Z0
 refine pure_ (i := 11) (N := some 56) (v := ?_) (a' := ?_) (bl 21 3007) rfl rfl (by kernel_rfl) (fun _ _ _ h => h) (Or.inl ⟨by rfl, ?_⟩) ?_ ?_
 rotate_left
 ·exact Z4
 rotate_left
 ·exact Z0
 refine pure_ (i := 12) (N := some 57) (v := ?_) (a' := ?_) (bl 21 7103) rfl rfl (by kernel_rfl) (fun _ _ _ h => h) (Or.inl ⟨by rfl, ?_⟩) ?_ ?_
 rotate_left
 ·exact Z4
 rotate_left
 ·exact Z0
 refine pure_ (i := 13) (N := some 58) (v := ?_) (a' := ?_) (bl 21 15295) rfl rfl (by kernel_rfl) (fun _ _ _ h => h) (Or.inl ⟨by rfl, ?_⟩) ?_ ?_
 rotate_left
 ·exact Z4
 rotate_left
 ·exact Z0
 refine pure_ (i := 15) (N := some 60) (v := ?_) (a' := ?_) (bl 21 48063) rfl rfl (by kernel_rfl) (fun _ _ _ h => h) (Or.inl ⟨by rfl, ?_⟩) ?_ ?_
 rotate_left
 ·exact Z4
 rotate_left
 ·exact Z0
 refine take_ (i := 6) (N := some 51) (v := ?_) (a' := ?_) (bl 21 48127) rfl rfl (by kernel_rfl) (fun _ _ _ h => h) (Or.inl ⟨by rfl, ?_⟩) hHeld ?_ ?_
 rotate_left
 ·exact Z8
 rotate_left
 ·exact Z0
 refine take_ (i := 10) (N := some 55) (v := ?_) (a' := ?_) (bl 21 49151) rfl rfl (by kernel_rfl) (fun _ _ _ h => h) (Or.inl ⟨by rfl, ?_⟩) hHeld ?_ ?_
 rotate_left
 ·exact Z8
 rotate_left
 ·exact Z0
 refine take_ (i := 14) (N := some 59) (v := ?_) (a' := ?_) (bl 21 65535) rfl rfl (by kernel_rfl) (fun _ _ _ h => h) (Or.inl ⟨by rfl, ?_⟩) hHeld ?_ ?_
 rotate_left
 ·exact Z8
 rotate_left
 ·exact Z0
 refine pure_ (i := 16) (N := some 61) (v := ?_) (a' := ?_) (bl 21 131071) rfl rfl (by kernel_rfl) (fun _ _ _ h => h) (Or.inl ⟨by rfl, ?_⟩) ?_ ?_
 rotate_left
 ·exact Z4
 rotate_left
 ·exact Z0
 refine pure_ (i := 17) (N := some 62) (v := ?_) (a' := ?_) (bl 21 262143) rfl rfl (by kernel_rfl) (fun _ _ _ h => h) (Or.inl ⟨by rfl, ?_⟩) ?_ ?_
 rotate_left
 ·exact Z4
 rotate_left
 ·exact Z0
 refine last_ (i := 18) (N := some 63) (bl 21 524287) rfl rfl (by kernel_rfl) (by decide) (fun K hK => ?_)
 refine goes_ Tryd.func95 (by kernel_rfl) rfl #[.string (st.s.extract (st.at_ + 1) (st.at_ + 1 + k))] (by rfl) rfl rfl Z23 ?_
 with_reducible refine (HV.out _ (Rd.drew (Rd.drew HA.out.hr)) (below_drew (below_drew HA.out.hb))).mono ?_
 rintro e w3 ⟨rfl, hb3⟩
 refine ⟨_, rfl, ?_⟩
 refine hK.out _ _ ?_
 clear hK K
 refine norm_ (a' := ?_) ?_ ?_
 rotate_left
 ·show Act.put _ (some 63) _ = _
  simp only [Act.put, sA_, s0_, s1_, i64_w, i32_w]
  rfl
 refine pure_ (i := 19) (N := some 64) (v := ?_) (a' := ?_) (bl 21 1048575) rfl rfl (by kernel_rfl) (fun _ _ _ h => h) (Or.inl ⟨by rfl, ?_⟩) ?_ ?_
 rotate_left
 ·exact Z4
 rotate_left
 ·exact Z0
 refine pure_ (i := 20) (N := some 65) (v := ?_) (a' := ?_) (bl 21 2097151) rfl rfl (by kernel_rfl) (fun _ _ _ h => h) (Or.inl ⟨by rfl, ?_⟩) ?_ ?_
 rotate_left
 ·exact Z4
 rotate_left
 ·exact Z0
 refine done_ (by kernel_rfl) ?_
 go_wp2
 exact ⟨rfl, And.intro rfl ((below_drew (below_drew HA.out.hb)).trans (hb3.mono HZ.out))⟩
set_option maxRecDepth 100000 in
set_option maxHeartbeats 8000000 in
theorem one_quote_ok (R : Nat) (st : RS) (vS vF : Value) (w : World) (hGL : GL w) (hR5 : 5 ≤ R) (hI : Inv st) (hlt : st.at_ < st.s.size) (k59 : (((st.s[st.at_]'hlt).toNat : Int) == 59) = false) (k34 : (((st.s[st.at_]'hlt).toNat : Int) == 34) = true) (k : Nat) (hk : nextQ { st with at_ := st.at_ + 1 } = k) (hv : Lib.validD (st.s.extract (st.at_ + 1) (st.at_ + 1 + k)).data.toList = true) (h : Rd R w st vS vF) :
  Calls Tryd.prog 68 #[.pointer (some ⟨R, 0, none⟩)] w (Res R w (quoteM st.at_ { st with at_ := st.at_ + 1 })) := by
 have hc0 := h.c0
 have hc1 := h.c1
 have hf1 := blk_frozen h.blk 1
 have HA := Aside0.mk h.at1
 have hd0 := HA.out.hr.c0
 have hd1 := HA.out.hr.c1.trans (show _ = some (Value.int .i64 ((st.at_ : Int) + 1)) by simp)
 have hsz := hI.sz
 have hi0 : (0 : Int) ≤ (st.at_ : Int) := by omega
 have hltc : (st.at_ : Int) < (st.s.size : Int) := by omega
 have hI1 : Inv { st with at_ := st.at_ + 1 } := hI.at_ (st.at_ + 1) (by omega) (by omega)
 have HI := Aside0.mk hI1
 have HG := Aside0.mk hGL
 have HR5 := Aside0.mk hR5
 have HIS := Aside0.mk hI
 clear h hI hI1 hGL hR5
 unfold quoteM
 rw [if_neg (by rw [hk]; omega), hk, Int.toNat_natCast, if_neg (show ¬ _ = false by rw [show Lib.validD _ = true from hv]; simp)]
 have HI0 := Aside0.mk HI.out.shut
 obtain ⟨RES, hres⟩ : ∃ RES, quoteL st.at_ (st.at_ + 1 + k) k { st with at_ := st.at_ + 1, open_ := false } = RES := ⟨_, rfl⟩
 rw [show quoteL st.at_ (RS.at_ { st with at_ := st.at_ + 1 } + k) k _ = RES from hres]
 have HRES := Aside0.mk hres
 clear hres
 have hx1 : (0 : Int) ≤ (st.at_ : Int) + 1 := by omega
 have hx2 : (st.at_ : Int) + 1 ≤ (st.s.size : Int) := by omega
 have hx4 : ((st.at_ : Int) + 1).toNat = st.at_ + 1 := by omega
 have hn0 : decide ((k : Int) < 0) = false := decide_eq_false (by omega)
 have hk1 := nextQ_lt { st with at_ := st.at_ + 1 } hlt (by rw [hk]; omega)
 rw [hk, Int.toNat_natCast] at hk1
 have hk2 : st.at_ + 1 + k ≤ st.s.size := hk1
 have HX := Aside0.mk (nextQ_walk { st with at_ := st.at_ + 1 } k hk)
 clear hk hk1
 have hx5 : (st.at_ : Int) + 1 ≤ (st.at_ : Int) + 1 + (k : Int) := by omega
 have hx6 : (st.at_ : Int) + 1 + (k : Int) ≤ (st.s.size : Int) := by omega
 have hx7 : ((st.at_ : Int) + 1 + (k : Int)).toNat = st.at_ + 1 + k := by omega
 have hx8 : wrap64 ((st.at_ : Int) + 1 + (k : Int)) = (st.at_ : Int) + 1 + (k : Int) := by unfold wrap64; omega
 have HV := Aside0.mk (fun W (hr : Rd R W { st with at_ := st.at_ + 1 } vS vF) (hb : Below R w W) => valid_walk (st.s.extract (st.at_ + 1) (st.at_ + 1 + k)) W true (by rw [ByteArray.size_extract]; omega) (HG.out.belowR HR5.out hb) hv)
 clear hv
 have HZ := Aside0.mk (Nat.le_of_lt (blk_lt (Rd.drew (Rd.drew HA.out.hr)).blk))
 go_enter Tryd.func68, Tryd.ntmps68
 go_wp2_with (fail)
 refine start_ (n := 11) (S := fun w' => w'.cell? ⟨R, 0, none⟩ = some (.string st.s) ∧ w'.cell? ⟨R, 1, none⟩ = some (.int .i64 ((st.at_ : Int) + 1))) (ds := []) (bl 11 0) (by kernel_rfl) rfl (by kernel_rfl) ⟨hd0, hd1⟩ (fun hHeld => ?_)
 refine pure_ (i := 0) (N := some 35) (v := ?_) (a' := ?_) (bl 11 1) rfl rfl (by kernel_rfl) (fun _ _ _ h => h) (Or.inl ⟨by rfl, ?_⟩) ?_ ?_
 rotate_left
 ·exact Z4
 rotate_left
 ·exact Z0
 refine pure_ (i := 1) (N := some 36) (v := ?_) (a' := ?_) (bl 11 3) rfl rfl (by kernel_rfl) (fun _ _ _ h => h) (Or.inl ⟨by rfl, ?_⟩) ?_ ?_
 rotate_left
 ·exact Z4
 rotate_left
 ·exact Z0
 refine pure_ (i := 2) (N := some 37) (v := ?_) (a' := ?_) (bl 11 7) rfl rfl (by kernel_rfl) (fun _ _ _ h => h) (Or.inl ⟨by rfl, ?_⟩) ?_ ?_
 rotate_left
 ·exact Z4
 rotate_left
 ·exact Z0
 refine pure_ (i := 4) (N := some 39) (v := ?_) (a' := ?_) (bl 11 23) rfl rfl (by kernel_rfl) (fun _ _ _ h => h) (Or.inl ⟨by rfl, ?_⟩) ?_ ?_
 rotate_left
 ·exact Z4
 rotate_left
 ·exact Z0
 refine pure_ (i := 5) (N := some 40) (v := ?_) (a' := ?_) (bl 11 55) rfl rfl (by kernel_rfl) (fun _ _ _ h => h) (Or.inl ⟨by rfl, ?_⟩) ?_ ?_
 rotate_left
 ·exact Z4
 rotate_left
 ·exact Z0
 refine pure_ (i := 6) (N := some 41) (v := ?_) (a' := ?_) (bl 11 119) rfl rfl (by kernel_rfl) (fun _ _ _ h => h) (Or.inl ⟨by rfl, ?_⟩) ?_ ?_
 rotate_left
 ·exact Z4
 rotate_left
 ·exact Z0
 refine take_ (i := 3) (N := some 38) (v := ?_) (a' := ?_) (bl 11 127) rfl rfl (by kernel_rfl) (fun _ _ _ h => h) (Or.inl ⟨by rfl, ?_⟩) hHeld ?_ ?_
 rotate_left
 ·exact Z8
 rotate_left
 ·exact Z0
 refine take_ (i := 7) (N := some 42) (v := ?_) (a' := ?_) (bl 11 255) rfl rfl (by kernel_rfl) (fun _ _ _ h => h) (Or.inl ⟨by rfl, ?_⟩) hHeld ?_ ?_
 rotate_left
 ·exact Z8
 rotate_left
 ·exact Z0
 refine pure_ (i := 8) (N := some 43) (v := ?_) (a' := ?_) (bl 11 511) rfl rfl (by kernel_rfl) (fun _ _ _ h => h) (Or.inl ⟨by rfl, ?_⟩) ?_ ?_
 rotate_left
 ·exact Z4
 rotate_left
 ·exact Z0
 refine one_ (i := 9) (N := some 44) (bl 11 1023) rfl rfl (by kernel_rfl) (by decide) (fun K hK => ?_)
 refine goes_ Tryd.func94 (by kernel_rfl) rfl #[.string (st.s.extract (st.at_ + 1) st.s.size), .int .u8 34] (by rfl) rfl rfl Z23 ?_
 with_reducible refine (HX.out _).mono ?_
 rintro e w2 ⟨rfl, rfl⟩
 refine ⟨_, rfl, ?_⟩
 refine hK.out _ _ ⟨hHeld.1, hHeld.2⟩ (fun hHeld => ?_)
 clear hK K
 refine norm_ (a' := ?_) ?_ ?_
 rotate_left
 ·show Act.put _ (some 44) _ = _
  simp only [Act.put, sA_, s0_, s1_, i64_w, i32_w]
  rfl
 refine pure_ (i := 10) (N := some 4) (v := ?_) (a' := ?_) (bl 11 2047) rfl rfl (by kernel_rfl) (fun _ _ _ h => h) (Or.inl ⟨by rfl, ?_⟩) ?_ ?_
 rotate_left
 ·exact Z4
 rotate_left
 ·exact Z0
 refine done_ (by kernel_rfl) ?_
 clear hHeld
 go_wp2_with (fail)
 refine start_ (n := 21) (S := fun w' => w'.cell? ⟨R, 0, none⟩ = some (.string st.s) ∧ w'.cell? ⟨R, 1, none⟩ = some (.int .i64 ((st.at_ : Int) + 1))) (ds := [18]) (bl 21 0) (by kernel_rfl) rfl (by kernel_rfl) ⟨hd0, hd1⟩ (fun hHeld => ?_)
 refine pure_ (i := 0) (N := some 45) (v := ?_) (a' := ?_) (bl 21 1) rfl rfl (by kernel_rfl) (fun _ _ _ h => h) (Or.inl ⟨by rfl, ?_⟩) ?_ ?_
 rotate_left
 ·exact Z4
 rotate_left
 ·exact Z0
 refine pure_ (i := 1) (N := some 46) (v := ?_) (a' := ?_) (bl 21 3) rfl rfl (by kernel_rfl) (fun _ _ _ h => h) (Or.inl ⟨by rfl, ?_⟩) ?_ ?_
 rotate_left
 ·exact Z4
 rotate_left
 ·exact Z0
 refine pure_ (i := 2) (N := some 47) (v := ?_) (a' := ?_) (bl 21 7) rfl rfl (by kernel_rfl) (fun _ _ _ h => h) (Or.inl ⟨by rfl, ?_⟩) ?_ ?_
 rotate_left
 ·exact Z4
 rotate_left
 ·exact Z0
 refine pure_ (i := 3) (N := some 48) (v := ?_) (a' := ?_) (bl 21 15) rfl rfl (by kernel_rfl) (fun _ _ _ h => h) (Or.inl ⟨by rfl, ?_⟩) ?_ ?_
 rotate_left
 ·exact Z4
 rotate_left
 ·exact Z0
 refine pure_ (i := 4) (N := some 49) (v := ?_) (a' := ?_) (bl 21 31) rfl rfl (by kernel_rfl) (fun _ _ _ h => h) (Or.inl ⟨by rfl, ?_⟩) ?_ ?_
 rotate_left
 ·exact Z4
 rotate_left
 ·exact Z0
 refine pure_ (i := 5) (N := some 50) (v := ?_) (a' := ?_) (bl 21 63) rfl rfl (by kernel_rfl) (fun _ _ _ h => h) (Or.inl ⟨by rfl, ?_⟩) ?_ ?_
 rotate_left
 ·exact Z4
 rotate_left
 ·exact Z0
 refine pure_ (i := 7) (N := some 52) (v := ?_) (a' := ?_) (bl 21 191) rfl rfl (by kernel_rfl) (fun _ _ _ h => h) (Or.inl ⟨by rfl, ?_⟩) ?_ ?_
 rotate_left
 ·exact Z4
 rotate_left
 ·exact Z0
 refine pure_ (i := 8) (N := some 53) (v := ?_) (a' := ?_) (bl 21 447) rfl rfl (by kernel_rfl) (fun _ _ _ h => h) (Or.inl ⟨by rfl, ?_⟩) ?_ ?_
 rotate_left
 ·exact Z4
 rotate_left
 ·exact Z0
 refine pure_ (i := 9) (N := some 54) (v := ?_) (a' := ?_) (bl 21 959) rfl rfl (by kernel_rfl) (fun _ _ _ h => h) (Or.inl ⟨by rfl, ?_⟩) ?_ ?_
 rotate_left
 ·exact Z4
 rotate_left
 ·exact Z0
 refine pure_ (i := 11) (N := some 56) (v := ?_) (a' := ?_) (bl 21 3007) rfl rfl (by kernel_rfl) (fun _ _ _ h => h) (Or.inl ⟨by rfl, ?_⟩) ?_ ?_
 rotate_left
 ·exact Z4
 rotate_left
 ·exact Z0
 refine pure_ (i := 12) (N := some 57) (v := ?_) (a' := ?_) (bl 21 7103) rfl rfl (by kernel_rfl) (fun _ _ _ h => h) (Or.inl ⟨by rfl, ?_⟩) ?_ ?_
 rotate_left
 ·exact Z4
 rotate_left
 ·exact Z0
 refine pure_ (i := 13) (N := some 58) (v := ?_) (a' := ?_) (bl 21 15295) rfl rfl (by kernel_rfl) (fun _ _ _ h => h) (Or.inl ⟨by rfl, ?_⟩) ?_ ?_
 rotate_left
 ·exact Z4
 rotate_left
 ·exact Z0
 refine pure_ (i := 15) (N := some 60) (v := ?_) (a' := ?_) (bl 21 48063) rfl rfl (by kernel_rfl) (fun _ _ _ h => h) (Or.inl ⟨by rfl, ?_⟩) ?_ ?_
 rotate_left
 ·exact Z4
 rotate_left
 ·exact Z0
 refine take_ (i := 6) (N := some 51) (v := ?_) (a' := ?_) (bl 21 48127) rfl rfl (by kernel_rfl) (fun _ _ _ h => h) (Or.inl ⟨by rfl, ?_⟩) hHeld ?_ ?_
 rotate_left
 ·exact Z8
 rotate_left
 ·exact Z0
 refine take_ (i := 10) (N := some 55) (v := ?_) (a' := ?_) (bl 21 49151) rfl rfl (by kernel_rfl) (fun _ _ _ h => h) (Or.inl ⟨by rfl, ?_⟩) hHeld ?_ ?_
 rotate_left
 ·exact Z8
 rotate_left
 ·exact Z0
 refine take_ (i := 14) (N := some 59) (v := ?_) (a' := ?_) (bl 21 65535) rfl rfl (by kernel_rfl) (fun _ _ _ h => h) (Or.inl ⟨by rfl, ?_⟩) hHeld ?_ ?_
 rotate_left
 ·exact Z8
 rotate_left
 ·exact Z0
 refine pure_ (i := 16) (N := some 61) (v := ?_) (a' := ?_) (bl 21 131071) rfl rfl (by kernel_rfl) (fun _ _ _ h => h) (Or.inl ⟨by rfl, ?_⟩) ?_ ?_
 rotate_left
 ·exact Z4
 rotate_left
 ·exact Z0
 refine pure_ (i := 17) (N := some 62) (v := ?_) (a' := ?_) (bl 21 262143) rfl rfl (by kernel_rfl) (fun _ _ _ h => h) (Or.inl ⟨by rfl, ?_⟩) ?_ ?_
 rotate_left
 ·exact Z4
 rotate_left
 ·exact Z0
 refine last_ (i := 18) (N := some 63) (bl 21 524287) rfl rfl (by kernel_rfl) (by decide) (fun K hK => ?_)
 refine goes_ Tryd.func95 (by kernel_rfl) rfl #[.string (st.s.extract (st.at_ + 1) (st.at_ + 1 + k))] (by rfl) rfl rfl Z23 ?_
 with_reducible refine (HV.out _ (Rd.drew (Rd.drew HA.out.hr)) (below_drew (below_drew HA.out.hb))).mono ?_
 rintro e w3 ⟨rfl, hb3⟩
 refine ⟨_, rfl, ?_⟩
 refine hK.out _ _ ?_
 clear hK K
 refine norm_ (a' := ?_) ?_ ?_
 rotate_left
 ·show Act.put _ (some 63) _ = _
  simp only [Act.put, sA_, s0_, s1_, i64_w, i32_w]
  rfl
 refine pure_ (i := 19) (N := some 64) (v := ?_) (a' := ?_) (bl 21 1048575) rfl rfl (by kernel_rfl) (fun _ _ _ h => h) (Or.inl ⟨by rfl, ?_⟩) ?_ ?_
 rotate_left
 ·exact Z4
 rotate_left
 ·exact Z0
 refine pure_ (i := 20) (N := some 65) (v := ?_) (a' := ?_) (bl 21 2097151) rfl rfl (by kernel_rfl) (fun _ _ _ h => h) (Or.inl ⟨by rfl, ?_⟩) ?_ ?_
 rotate_left
 ·exact Z4
 rotate_left
 ·exact Z0
 refine done_ (by kernel_rfl) ?_
 have HB3 := Aside0.mk ((below_drew (below_drew HA.out.hb)).trans (hb3.mono HZ.out))
 have HR3 := Aside0.mk (Rd.below (Rd.drew (Rd.drew HA.out.hr)) hb3)
 have HR4 := Aside0.mk (HR3.out.setOpen false)
 have HB4 := Aside0.mk (HB3.out.setCell (p := ⟨R, 5, none⟩) (Nat.le_refl R) (.bool false))
 have hy5 := blk_cell HR3.out.blk 5
 have hyf := blk_frozen HR3.out.blk 5
 have hyd := HR4.out.c1.trans (show _ = some (Value.int .i64 ((st.at_ : Int) + 1)) by simp)
 clear hb3 hd0 hd1 HX HV hc0 hc1 hf1 HZ
 go_wp2_with (fail)
 go_loopg [] (k + 1) (fun gk wx => ∃ (f : Nat) (st' : RS) (vS' vF' : Value), gk = f + 1 ∧ Aside0 (Rd R wx st' vS' vF') ∧ Aside0 (Below R w wx) ∧ Aside0 (Inv st') ∧ Aside0 (quoteL st.at_ (st.at_ + 1 + k) f st' = RES) ∧ st'.s = st.s ∧ st.at_ + 1 + k ≤ st'.at_ + f ∧ st'.at_ ≤ st.s.size)
 case atStart => exact ⟨k, _, _, _, rfl, ⟨HR4.out⟩, ⟨HB4.out⟩, ⟨HI0.out⟩, ⟨HRES.out⟩, rfl, Nat.le_refl _, hlt⟩
 case round =>
  obtain ⟨f, st', vS', vF', rfl, HR, HB, HJ, HQ, hs', hst, hle⟩ := hrel
  clear hy5 hyf hyd HR4 HB4 HR3 HB3 HRES
  have e1 := HR.out.c1
  have f1 := blk_frozen HR.out.blk 1
  have hsz' : st'.s.size ≤ 2000 := by rw [hs']; omega
  have hle' : st'.at_ ≤ st'.s.size := by rw [hs']; exact hle
  have HS' := Aside0.mk hs'
  clear hs'
  have hq := HQ.out
  by_cases hl : st'.at_ < st.at_ + 1 + k
  ·have hl' : decide ((st'.at_ : Int) < (st.at_ : Int) + 1 + (k : Int)) = true := decide_eq_true (by omega)
   obtain ⟨g, rfl⟩ : ∃ g, f = g + 1 := ⟨f - 1, by omega⟩
   unfold quoteL at hq
   rw [if_pos hl] at hq
   by_cases hbad : badAt st'.s st'.at_ = true
   ·rw [if_pos hbad] at hq
    subst hq
    have HP := Aside0.mk (rune1_panic R st' vS' vF' st.at_ wr (HG.out.belowR HR5.out HB.out) hsz' hle' hbad HR.out)
    have HZ := Aside0.mk (Nat.le_of_lt (blk_lt HR.out.blk))
    clear HQ hbad
    go_wp2_with (fail)
    (with_reducible refine HP.out.mono ?_)
    rintro e w5 ⟨rfl, hb5⟩
    unfold fault
    go_wp2
    exact ⟨rfl, And.intro rfl (HB.out.trans (hb5.mono HZ.out))⟩
   ·rw [if_neg hbad] at hq
    have HP := Aside0.mk (rune1_ok R st' vS' vF' st.at_ wr (HG.out.belowR HR5.out HB.out) hsz' hle' (by simpa using hbad) HR.out)
    have HI2 := Aside0.mk (HJ.out.rune hle')
    have hpos := badAt_pos (s := st'.s) (p := st'.at_) (by simpa using hbad)
    have hdl := decAt_le st'.s st'.at_ hle'
    clear HQ hbad
    rcases hp : putM 1 (runeT st') st'.at_ (runeS st') with x | st2
    ·rw [hp] at hq
     have hq : Except.error x = RES := hq
     subst hq
     have HU : Aside0 (∀ W, Rd R W { st' with at_ := st'.at_ + (decAt st'.s st'.at_).2 } vS' vF' → Calls Tryd.prog 96 #[.pointer (some ⟨R, 0, none⟩), .int .i64 1, .string (st'.s.extract st'.at_ (st'.at_ + (decAt st'.s st'.at_).2)), .int .i64 st'.at_] W fun e w' => e = fault x.1 x.2 ∧ Below R W w') := ⟨fun W hr => put_err hp HI2.out hr⟩
     clear hp
     go_wp2_with (fail)
     (with_reducible refine HP.out.mono ?_)
     rintro e w5 ⟨rfl, hr5, hb5⟩
     have HR5' := Aside0.mk hr5
     have HB5 := Aside0.mk hb5
     clear hr5 hb5
     go_wp2_with (fail)
     (with_reducible refine (HU.out _ HR5'.out).mono ?_)
     rintro e w6 ⟨rfl, hb6⟩
     unfold fault
     go_wp2
     exact ⟨rfl, And.intro rfl (HB.out.trans (HB5.out.trans hb6))⟩
    ·rw [hp] at hq
     have hq : quoteL st.at_ (st.at_ + 1 + k) g st2 = RES := hq
     have HU : Aside0 (∀ W, Rd R W { st' with at_ := st'.at_ + (decAt st'.s st'.at_).2 } vS' vF' → Calls Tryd.prog 96 #[.pointer (some ⟨R, 0, none⟩), .int .i64 1, .string (st'.s.extract st'.at_ (st'.at_ + (decAt st'.s st'.at_).2)), .int .i64 st'.at_] W fun e w' => e = .returned (.tuple #[]) ∧ (∃ vS vF, Rd R w' st2 vS vF) ∧ Below R W w') := ⟨fun W hr => put_fine hp HI2.out hr⟩
     obtain ⟨i2, a2, s2⟩ := putM_ok hp HI2.out
     have a2' : st2.at_ = st'.at_ + (decAt st'.s st'.at_).2 := a2
     have s2' : st2.s = st.s := s2.trans HS'.out
     have hle2 : st2.at_ ≤ st.s.size := by rw [← HS'.out, a2']; exact hdl
     have HLE2 := Aside0.mk hle2
     clear hle2
     have HQ2 := Aside0.mk hq
     have HI3 := Aside0.mk i2
     clear hp a2 s2 hq i2
     go_wp2_with (fail)
     (with_reducible refine HP.out.mono ?_)
     rintro e w5 ⟨rfl, hr5, hb5⟩
     have HR5' := Aside0.mk hr5
     have HB5 := Aside0.mk hb5
     clear hr5 hb5
     go_wp2_with (fail)
     (with_reducible refine (HU.out _ HR5'.out).mono ?_)
     rintro e w6 ⟨rfl, ⟨vS6, vF6, hr6⟩, hb6⟩
     have HR6 := Aside0.mk hr6
     have HB6 := Aside0.mk (HB.out.trans (HB5.out.trans hb6))
     clear hr6 hb6
     go_wp2
     go_roundg (g + 1)
     case measure => omega
     case rel => exact ⟨g, st2, vS6, vF6, rfl, ⟨HR6.out⟩, ⟨HB6.out⟩, ⟨HI3.out⟩, ⟨HQ2.out⟩, s2', by omega, HLE2.out⟩
  ·have hl' : decide ((st'.at_ : Int) < (st.at_ : Int) + 1 + (k : Int)) = false := decide_eq_false (by omega)
   have hq : Except.ok st' = RES := by
    cases f with
    | zero => exact hq
    | succ f => unfold quoteL at hq; rw [if_neg hl] at hq; exact hq
   subst hq
   clear HQ
   have HR7 := Aside0.mk (HR.out.setAt ((st'.at_ : Int) + 1) (st'.at_ + 1) (by omega))
   have HB7 := Aside0.mk (HB.out.setCell (p := ⟨R, 1, none⟩) (Nat.le_refl R) (.int .i64 ((st'.at_ : Int) + 1)))
   go_wp2
   go_end0
   exact ⟨rfl, ⟨_, _, HR7.out⟩, HB7.out⟩
theorem bz {c : UInt8} {k : Nat} (hk : k < 256) (h : ¬ (c == UInt8.ofNat k) = true) : ((c.toNat : Int) == (k : Int)) = false := (u8_eq c k hk).trans (by simpa using h)
theorem bo {c : UInt8} {k : Nat} (hk : k < 256) (h : (c == UInt8.ofNat k) = true) : ((c.toNat : Int) == (k : Int)) = true := (u8_eq c k hk).trans h
theorem one_walk (R : Nat) (st : RS) (vS vF : Value) (w : World) (hGL : GL w) (hR5 : 5 ≤ R) (hI : Inv st) (hlt : st.at_ < st.s.size) (hop : st.open_ = true → 1 ≤ st.at_) (h : Rd R w st vS vF) :
  Calls Tryd.prog 68 #[.pointer (some ⟨R, 0, none⟩)] w (Res R w (oneM st)) := by
 unfold oneM
 rw [dif_pos hlt]
 unfold oneC
 by_cases c59 : ((st.s[st.at_]'hlt) == 59) = true
 ·rw [if_pos c59]; exact one_semi R st vS vF w hGL hR5 hI hlt (bo (k := 59) (by omega) c59) h
 rw [if_neg c59]
 have z59 := bz (k := 59) (by omega) c59
 by_cases c34 : ((st.s[st.at_]'hlt) == 34) = true
 ·rw [if_pos c34]
  have z34 := bo (k := 34) (by omega) c34
  by_cases hn : nextQ { st with at_ := st.at_ + 1 } < 0
  ·exact one_quote_none R st vS vF w hGL hR5 hI hlt z59 z34 hn h
  ·have hk : nextQ { st with at_ := st.at_ + 1 } = ((nextQ { st with at_ := st.at_ + 1 }).toNat : Int) := by omega
   cases hv : Lib.validD (st.s.extract (st.at_ + 1) (st.at_ + 1 + (nextQ { st with at_ := st.at_ + 1 }).toNat)).data.toList with
   | false => exact one_quote_bad R st vS vF w hGL hR5 hI hlt z59 z34 _ hk hv h
   | true => exact one_quote_ok R st vS vF w hGL hR5 hI hlt z59 z34 _ hk hv h
 rw [if_neg c34]
 have z34 := bz (k := 34) (by omega) c34
 by_cases c92 : ((st.s[st.at_]'hlt) == 92) = true
 ·rw [if_pos c92]; exact one_back R st vS vF w hGL hR5 hI hlt z59 z34 (bo (k := 92) (by omega) c92) h
 rw [if_neg c92]
 have z92 := bz (k := 92) (by omega) c92
 by_cases c95 : ((st.s[st.at_]'hlt) == 95) = true
 ·rw [if_pos c95]; exact one_under R st vS vF w hGL hR5 hI hlt z59 z34 z92 (bo (k := 95) (by omega) c95) h
 rw [if_neg c95]
 have z95 := bz (k := 95) (by omega) c95
 by_cases c44 : ((st.s[st.at_]'hlt) == 44) = true
 ·rw [if_pos c44]; exact one_comma R st vS vF w hGL hR5 hI hlt z59 z34 z92 z95 (bo (k := 44) (by omega) c44) hop h
 rw [if_neg c44]
 have z44 := bz (k := 44) (by omega) c44
 by_cases c48 : ((st.s[st.at_]'hlt) == 48) = true
 ·rw [if_pos (show (_ || _ || _) = true by rw [show ((st.s[st.at_]'hlt) == 48) = true from c48]; rfl)]; exact one_d0 R st vS vF w hGL hR5 hI hlt z59 z34 z92 z95 z44 (bo (k := 48) (by omega) c48) h
 have z48 := bz (k := 48) (by omega) c48
 by_cases c35 : ((st.s[st.at_]'hlt) == 35) = true
 ·rw [if_pos (show (_ || _ || _) = true by rw [show ((st.s[st.at_]'hlt) == 35) = true from c35]; simp)]; exact one_d1 R st vS vF w hGL hR5 hI hlt z59 z34 z92 z95 z44 z48 (bo (k := 35) (by omega) c35) h
 have z35 := bz (k := 35) (by omega) c35
 by_cases c63 : ((st.s[st.at_]'hlt) == 63) = true
 ·rw [if_pos (show (_ || _ || _) = true by rw [show ((st.s[st.at_]'hlt) == 63) = true from c63]; simp)]; exact one_d2 R st vS vF w hGL hR5 hI hlt z59 z34 z92 z95 z44 z48 z35 (bo (k := 63) (by omega) c63) h
 have z63 := bz (k := 63) (by omega) c63
 rw [if_neg (show ¬ (_ || _ || _) = true by rw [show ((st.s[st.at_]'hlt) == 48) = false by simpa using c48, show ((st.s[st.at_]'hlt) == 35) = false by simpa using c35, show ((st.s[st.at_]'hlt) == 63) = false by simpa using c63]; simp)]
 exact one_other R st vS vF w hGL hR5 hI hlt z59 z34 z92 z95 z44 z48 z35 z63 h
end Go.Proofs.YtmbhjogohfcjgaaDoor.P
