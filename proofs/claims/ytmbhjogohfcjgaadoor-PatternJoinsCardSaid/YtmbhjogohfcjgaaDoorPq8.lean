/- The walk of reader.one, a theorem a way (written by wip/tools/genone.py). -/
import Derived.Test.YtmbhjogohfcjgaaDoorPq7
import Derived.Deep.LoopGhost
namespace Go.Proofs.YtmbhjogohfcjgaaDoor.P
open Go.RowKit Go.Proofs.YtmbhjogohfcjgaaDoorW.PrintWords Go.Proofs.YtmbhjogohfcjgaaDoorW.PrintLast Go.Proofs.YtmbhjogohfcjgaaDoorW.PrintMore
set_option linter.unusedVariables false
set_option linter.unusedSimpArgs false
theorem Rd.setOpen {R : Nat} {w : World} {st : RS} {vS vF : Value} (h : Rd R w st vS vF) (b : Bool) : Rd R (w.setCell ⟨R, 5, none⟩ (.bool b)) { st with open_ := b } vS vF :=
 ⟨blk_set h.blk 5 (.bool b), Kd.S_set h.hS h.blk (by decide) 5 _, Kd.R_set h.hF h.blk (by decide) 5 _⟩
structure At1 (R : Nat) (w : World) (st : RS) (vS vF : Value) : Prop where
 hr : Rd R (w.setCell ⟨R, 1, none⟩ (.int .i64 ((st.at_ : Int) + 1))) { st with at_ := st.at_ + 1 } vS vF
 hb : Below R w (w.setCell ⟨R, 1, none⟩ (.int .i64 ((st.at_ : Int) + 1)))
theorem Rd.at1 {R : Nat} {w : World} {st : RS} {vS vF : Value} (h : Rd R w st vS vF) : At1 R w st vS vF :=
 ⟨h.setAt ((st.at_ : Int) + 1) (st.at_ + 1) (by omega), (Below.refl R w).setCell (p := ⟨R, 1, none⟩) (Nat.le_refl R) (.int .i64 ((st.at_ : Int) + 1))⟩
theorem Res.trans {R : Nat} {w w1 w2 : World} {x : Except (Int × Int) RS} {e : Ending} (hb : Below R w w1) (h : Res R w1 x e w2) : Res R w x e w2 := by
 cases x with
 | error x => exact ⟨h.1, hb.trans h.2⟩
 | ok st => exact ⟨h.1, h.2.1, hb.trans h.2.2⟩
theorem res_err {R : Nat} {w : World} {f : FuncId} {args : Array Value} {m : Except (Int × Int) RS} {x : Int × Int} (hx : m = .error x) (h : Calls Tryd.prog f args w (Res R w m)) :
  Calls Tryd.prog f args w fun e w' => e = fault x.1 x.2 ∧ Below R w w' := by rw [hx] at h; exact h
theorem res_ok {R : Nat} {w : World} {f : FuncId} {args : Array Value} {m : Except (Int × Int) RS} {st' : RS} (hx : m = .ok st') (h : Calls Tryd.prog f args w (Res R w m)) :
  Calls Tryd.prog f args w fun e w' => e = .returned (.tuple #[]) ∧ (∃ vS vF, Rd R w' st' vS vF) ∧ Below R w w' := by rw [hx] at h; exact h
set_option maxRecDepth 100000 in
set_option maxHeartbeats 8000000 in
theorem one_semi (R : Nat) (st : RS) (vS vF : Value) (w : World) (hGL : GL w) (hR5 : 5 ≤ R) (hI : Inv st) (hlt : st.at_ < st.s.size) (k59 : (((st.s[st.at_]'hlt).toNat : Int) == 59) = true) (h : Rd R w st vS vF) :
  Calls Tryd.prog 68 #[.pointer (some ⟨R, 0, none⟩)] w (Res R w (beginM { st with at_ := st.at_ + 1 })) := by
 have hc0 := h.c0
 have hc1 := h.c1
 have hf1 := blk_frozen h.blk 1
 have HA := Aside0.mk h.at1
 have hd0 := HA.out.hr.c0
 have hd1 := HA.out.hr.c1.trans (show _ = some (Value.int .i64 ((st.at_ : Int) + 1)) by simp)
 have hsz := hI.sz
 have hi0 : (0 : Int) ≤ (st.at_ : Int) := by omega
 have hltc : (st.at_ : Int) < (st.s.size : Int) := by omega
 have hI1 : Inv { st with at_ := st.at_ + 1 } := hI.at_ (st.at_ + 1) (by omega) (by omega)
 have HI := Aside0.mk hI1
 have HG := Aside0.mk hGL
 have HR5 := Aside0.mk hR5
 have HIS := Aside0.mk hI
 clear h hI hI1 hGL hR5
 have HP := Aside0.mk (begin_walk R _ vS vF _ HI.out (Nat.succ_le_succ (Nat.zero_le _)) HA.out.hr)
 rcases hres : beginM { st with at_ := st.at_ + 1 } with x | st'
 ·have HQ := Aside0.mk (res_err hres HP.out)
  clear hres
  go_enter Tryd.func68, Tryd.ntmps68
  go_wp2_with (fail)
  (with_reducible refine HQ.out.mono ?_)
  rintro e w2 ⟨rfl, hb2⟩
  unfold fault
  go_wp2
  exact ⟨rfl, And.intro rfl (HA.out.hb.trans hb2)⟩
 ·have HQ := Aside0.mk (res_ok hres HP.out)
  clear hres
  go_enter Tryd.func68, Tryd.ntmps68
  go_wp2_with (fail)
  (with_reducible refine HQ.out.mono ?_)
  rintro e w2 ⟨rfl, hr2, hb2⟩
  go_wp2
  go_end0
  exact ⟨rfl, hr2, HA.out.hb.trans hb2⟩
set_option maxRecDepth 100000 in
set_option maxHeartbeats 8000000 in
theorem one_comma (R : Nat) (st : RS) (vS vF : Value) (w : World) (hGL : GL w) (hR5 : 5 ≤ R) (hI : Inv st) (hlt : st.at_ < st.s.size) (k59 : (((st.s[st.at_]'hlt).toNat : Int) == 59) = false) (k34 : (((st.s[st.at_]'hlt).toNat : Int) == 34) = false) (k92 : (((st.s[st.at_]'hlt).toNat : Int) == 92) = false) (k95 : (((st.s[st.at_]'hlt).toNat : Int) == 95) = false) (k44 : (((st.s[st.at_]'hlt).toNat : Int) == 44) = true) (hop : st.open_ = true → 1 ≤ st.at_) (h : Rd R w st vS vF) :
  Calls Tryd.prog 68 #[.pointer (some ⟨R, 0, none⟩)] w (Res R w (commaM st.at_ { st with at_ := st.at_ + 1 })) := by
 have hc0 := h.c0
 have hc1 := h.c1
 have hf1 := blk_frozen h.blk 1
 have HA := Aside0.mk h.at1
 have hd0 := HA.out.hr.c0
 have hd1 := HA.out.hr.c1.trans (show _ = some (Value.int .i64 ((st.at_ : Int) + 1)) by simp)
 have hsz := hI.sz
 have hi0 : (0 : Int) ≤ (st.at_ : Int) := by omega
 have hltc : (st.at_ : Int) < (st.s.size : Int) := by omega
 have hI1 : Inv { st with at_ := st.at_ + 1 } := hI.at_ (st.at_ + 1) (by omega) (by omega)
 have HI := Aside0.mk hI1
 have HG := Aside0.mk hGL
 have HR5 := Aside0.mk hR5
 have HIS := Aside0.mk hI
 clear h hI hI1 hGL hR5
 have HP := Aside0.mk (comma_walk R _ vS vF st.at_ _ HI.out hlt hop (Nat.le_of_lt hlt) HA.out.hr)
 rcases hres : commaM st.at_ { st with at_ := st.at_ + 1 } with x | st'
 ·have HQ := Aside0.mk (res_err hres HP.out)
  clear hres
  go_enter Tryd.func68, Tryd.ntmps68
  go_wp2_with (fail)
  (with_reducible refine HQ.out.mono ?_)
  rintro e w2 ⟨rfl, hb2⟩
  unfold fault
  go_wp2
  exact ⟨rfl, And.intro rfl (HA.out.hb.trans hb2)⟩
 ·have HQ := Aside0.mk (res_ok hres HP.out)
  clear hres
  go_enter Tryd.func68, Tryd.ntmps68
  go_wp2_with (fail)
  (with_reducible refine HQ.out.mono ?_)
  rintro e w2 ⟨rfl, hr2, hb2⟩
  go_wp2
  go_end0
  exact ⟨rfl, hr2, HA.out.hb.trans hb2⟩
set_option maxRecDepth 100000 in
set_option maxHeartbeats 8000000 in
theorem one_other (R : Nat) (st : RS) (vS vF : Value) (w : World) (hGL : GL w) (hR5 : 5 ≤ R) (hI : Inv st) (hlt : st.at_ < st.s.size) (k59 : (((st.s[st.at_]'hlt).toNat : Int) == 59) = false) (k34 : (((st.s[st.at_]'hlt).toNat : Int) == 34) = false) (k92 : (((st.s[st.at_]'hlt).toNat : Int) == 92) = false) (k95 : (((st.s[st.at_]'hlt).toNat : Int) == 95) = false) (k44 : (((st.s[st.at_]'hlt).toNat : Int) == 44) = false) (k48 : (((st.s[st.at_]'hlt).toNat : Int) == 48) = false) (k35 : (((st.s[st.at_]'hlt).toNat : Int) == 35) = false) (k63 : (((st.s[st.at_]'hlt).toNat : Int) == 63) = false) (h : Rd R w st vS vF) :
  Calls Tryd.prog 68 #[.pointer (some ⟨R, 0, none⟩)] w (Res R w (otherM (st.s[st.at_]'hlt) st.at_ { st with at_ := st.at_ + 1 })) := by
 have hc0 := h.c0
 have hc1 := h.c1
 have hf1 := blk_frozen h.blk 1
 have HA := Aside0.mk h.at1
 have hd0 := HA.out.hr.c0
 have hd1 := HA.out.hr.c1.trans (show _ = some (Value.int .i64 ((st.at_ : Int) + 1)) by simp)
 have hsz := hI.sz
 have hi0 : (0 : Int) ≤ (st.at_ : Int) := by omega
 have hltc : (st.at_ : Int) < (st.s.size : Int) := by omega
 have hI1 : Inv { st with at_ := st.at_ + 1 } := hI.at_ (st.at_ + 1) (by omega) (by omega)
 have HI := Aside0.mk hI1
 have HG := Aside0.mk hGL
 have HR5 := Aside0.mk hR5
 have HIS := Aside0.mk hI
 clear h hI hI1 hGL hR5
 have HP := Aside0.mk (other_walk R _ vS vF (st.s[st.at_]'hlt) st.at_ _ HI.out hlt (Nat.lt_succ_self st.at_) HA.out.hr HIS.out.sc1)
 rcases hres : otherM (st.s[st.at_]'hlt) st.at_ { st with at_ := st.at_ + 1 } with x | st'
 ·have HQ := Aside0.mk (res_err hres HP.out)
  clear hres
  go_enter Tryd.func68, Tryd.ntmps68
  go_wp2_with (fail)
  (with_reducible refine HQ.out.mono ?_)
  rintro e w2 ⟨rfl, hb2⟩
  unfold fault
  go_wp2
  exact ⟨rfl, And.intro rfl (HA.out.hb.trans hb2)⟩
 ·have HQ := Aside0.mk (res_ok hres HP.out)
  clear hres
  go_enter Tryd.func68, Tryd.ntmps68
  go_wp2_with (fail)
  (with_reducible refine HQ.out.mono ?_)
  rintro e w2 ⟨rfl, hr2, hb2⟩
  go_wp2
  go_end0
  exact ⟨rfl, hr2, HA.out.hb.trans hb2⟩
set_option maxRecDepth 100000 in
set_option maxHeartbeats 8000000 in
theorem one_d0 (R : Nat) (st : RS) (vS vF : Value) (w : World) (hGL : GL w) (hR5 : 5 ≤ R) (hI : Inv st) (hlt : st.at_ < st.s.size) (k59 : (((st.s[st.at_]'hlt).toNat : Int) == 59) = false) (k34 : (((st.s[st.at_]'hlt).toNat : Int) == 34) = false) (k92 : (((st.s[st.at_]'hlt).toNat : Int) == 92) = false) (k95 : (((st.s[st.at_]'hlt).toNat : Int) == 95) = false) (k44 : (((st.s[st.at_]'hlt).toNat : Int) == 44) = false) (k48 : (((st.s[st.at_]'hlt).toNat : Int) == 48) = true) (h : Rd R w st vS vF) :
  Calls Tryd.prog 68 #[.pointer (some ⟨R, 0, none⟩)] w (Res R w (putM 2 (st.s.extract st.at_ (st.at_ + 1)) st.at_ { st with at_ := st.at_ + 1 })) := by
 have hc0 := h.c0
 have hc1 := h.c1
 have hf1 := blk_frozen h.blk 1
 have HA := Aside0.mk h.at1
 have hd0 := HA.out.hr.c0
 have hd1 := HA.out.hr.c1.trans (show _ = some (Value.int .i64 ((st.at_ : Int) + 1)) by simp)
 have hsz := hI.sz
 have hi0 : (0 : Int) ≤ (st.at_ : Int) := by omega
 have hltc : (st.at_ : Int) < (st.s.size : Int) := by omega
 have hI1 : Inv { st with at_ := st.at_ + 1 } := hI.at_ (st.at_ + 1) (by omega) (by omega)
 have HI := Aside0.mk hI1
 have HG := Aside0.mk hGL
 have HR5 := Aside0.mk hR5
 have HIS := Aside0.mk hI
 clear h hI hI1 hGL hR5
 have hx1 : (st.at_ : Int) ≤ (st.at_ : Int) + 1 := by omega
 have hx2 : (st.at_ : Int) + 1 ≤ (st.s.size : Int) := by omega
 have hx4 : ((st.at_ : Int) + 1).toNat = st.at_ + 1 := by omega
 rcases hres : putM 2 (st.s.extract st.at_ (st.at_ + 1)) st.at_ { st with at_ := st.at_ + 1 } with x | st'
 ·have HP := Aside0.mk (put_err hres HI.out (Rd.drew HA.out.hr))
  clear hres
  go_enter Tryd.func68, Tryd.ntmps68
  go_wp2_with (fail)
  refine start_ (n := 13) (S := fun w' => w'.cell? ⟨R, 0, none⟩ = some (.string st.s) ∧ w'.cell? ⟨R, 1, none⟩ = some (.int .i64 ((st.at_ : Int) + 1))) (ds := []) (bl 13 0) (by kernel_rfl) rfl (by kernel_rfl) ⟨hd0, hd1⟩ (fun hHeld => ?_)
  refine pure_ (i := 0) (N := some 126) (v := ?_) (a' := ?_) (bl 13 1) rfl rfl (by kernel_rfl) (fun _ _ _ h => h) (Or.inl ⟨by rfl, ?_⟩) ?_ ?_
  rotate_left
  ·exact Z4
  rotate_left
  ·exact Z0
  refine pure_ (i := 1) (N := some 127) (v := ?_) (a' := ?_) (bl 13 3) rfl rfl (by kernel_rfl) (fun _ _ _ h => h) (Or.inl ⟨by rfl, ?_⟩) ?_ ?_
  rotate_left
  ·exact Z4
  rotate_left
  ·exact Z0
  refine pure_ (i := 2) (N := some 128) (v := ?_) (a' := ?_) (bl 13 7) rfl rfl (by kernel_rfl) (fun _ _ _ h => h) (Or.inl ⟨by rfl, ?_⟩) ?_ ?_
  rotate_left
  ·exact Z4
  rotate_left
  ·exact Z0
  refine pure_ (i := 3) (N := some 129) (v := ?_) (a' := ?_) (bl 13 15) rfl rfl (by kernel_rfl) (fun _ _ _ h => h) (Or.inl ⟨by rfl, ?_⟩) ?_ ?_
  rotate_left
  ·exact Z4
  rotate_left
  ·exact Z0
  refine pure_ (i := 5) (N := some 131) (v := ?_) (a' := ?_) (bl 13 47) rfl rfl (by kernel_rfl) (fun _ _ _ h => h) (Or.inl ⟨by rfl, ?_⟩) ?_ ?_
  rotate_left
  ·exact Z4
  rotate_left
  ·exact Z0
  refine pure_ (i := 6) (N := some 132) (v := ?_) (a' := ?_) (bl 13 111) rfl rfl (by kernel_rfl) (fun _ _ _ h => h) (Or.inl ⟨by rfl, ?_⟩) ?_ ?_
  rotate_left
  ·exact Z4
  rotate_left
  ·exact Z0
  refine pure_ (i := 7) (N := some 133) (v := ?_) (a' := ?_) (bl 13 239) rfl rfl (by kernel_rfl) (fun _ _ _ h => h) (Or.inl ⟨by rfl, ?_⟩) ?_ ?_
  rotate_left
  ·exact Z4
  rotate_left
  ·exact Z0
  refine pure_ (i := 8) (N := some 134) (v := ?_) (a' := ?_) (bl 13 495) rfl rfl (by kernel_rfl) (fun _ _ _ h => h) (Or.inl ⟨by rfl, ?_⟩) ?_ ?_
  rotate_left
  ·exact Z4
  rotate_left
  ·exact Z0
  refine pure_ (i := 11) (N := some 137) (v := ?_) (a' := ?_) (bl 13 2543) rfl rfl (by kernel_rfl) (fun _ _ _ h => h) (Or.inl ⟨by rfl, ?_⟩) ?_ ?_
  rotate_left
  ·exact Z4
  rotate_left
  ·exact Z0
  refine take_ (i := 4) (N := some 130) (v := ?_) (a' := ?_) (bl 13 2559) rfl rfl (by kernel_rfl) (fun _ _ _ h => h) (Or.inl ⟨by rfl, ?_⟩) hHeld ?_ ?_
  rotate_left
  ·exact Z8
  rotate_left
  ·exact Z0
  refine take_ (i := 9) (N := some 135) (v := ?_) (a' := ?_) (bl 13 3071) rfl rfl (by kernel_rfl) (fun _ _ _ h => h) (Or.inl ⟨by rfl, ?_⟩) hHeld ?_ ?_
  rotate_left
  ·exact Z8
  rotate_left
  ·exact Z0
  refine pure_ (i := 10) (N := some 136) (v := ?_) (a' := ?_) (bl 13 4095) rfl rfl (by kernel_rfl) (fun _ _ _ h => h) (Or.inl ⟨by rfl, ?_⟩) ?_ ?_
  rotate_left
  ·exact Z4
  rotate_left
  ·exact Z0
  refine one_ (i := 12) (N := some 138) (bl 13 8191) rfl rfl (by kernel_rfl) (by decide) (fun K hK => ?_)
  refine fails_ Tryd.func96 (by kernel_rfl) rfl #[.pointer (some ⟨R, 0, none⟩), .int .i64 2, .string (st.s.extract st.at_ (st.at_ + 1)), .int .i64 st.at_] (by rfl) rfl rfl Z23 ?_
  with_reducible refine (HP.out).mono ?_
  rintro e w2 ⟨rfl, hb2⟩
  refine ⟨_, rfl, ?_⟩
  exact ⟨rfl, And.intro rfl (HA.out.hb.trans (below_drew' hb2))⟩
 ·have HP := Aside0.mk (put_fine hres HI.out (Rd.drew HA.out.hr))
  clear hres
  go_enter Tryd.func68, Tryd.ntmps68
  go_wp2_with (fail)
  refine start_ (n := 13) (S := fun w' => w'.cell? ⟨R, 0, none⟩ = some (.string st.s) ∧ w'.cell? ⟨R, 1, none⟩ = some (.int .i64 ((st.at_ : Int) + 1))) (ds := [12]) (bl 13 0) (by kernel_rfl) rfl (by kernel_rfl) ⟨hd0, hd1⟩ (fun hHeld => ?_)
  refine pure_ (i := 0) (N := some 126) (v := ?_) (a' := ?_) (bl 13 1) rfl rfl (by kernel_rfl) (fun _ _ _ h => h) (Or.inl ⟨by rfl, ?_⟩) ?_ ?_
  rotate_left
  ·exact Z4
  rotate_left
  ·exact Z0
  refine pure_ (i := 1) (N := some 127) (v := ?_) (a' := ?_) (bl 13 3) rfl rfl (by kernel_rfl) (fun _ _ _ h => h) (Or.inl ⟨by rfl, ?_⟩) ?_ ?_
  rotate_left
  ·exact Z4
  rotate_left
  ·exact Z0
  refine pure_ (i := 2) (N := some 128) (v := ?_) (a' := ?_) (bl 13 7) rfl rfl (by kernel_rfl) (fun _ _ _ h => h) (Or.inl ⟨by rfl, ?_⟩) ?_ ?_
  rotate_left
  ·exact Z4
  rotate_left
  ·exact Z0
  refine pure_ (i := 3) (N := some 129) (v := ?_) (a' := ?_) (bl 13 15) rfl rfl (by kernel_rfl) (fun _ _ _ h => h) (Or.inl ⟨by rfl, ?_⟩) ?_ ?_
  rotate_left
  ·exact Z4
  rotate_left
  ·exact Z0
  refine pure_ (i := 5) (N := some 131) (v := ?_) (a' := ?_) (bl 13 47) rfl rfl (by kernel_rfl) (fun _ _ _ h => h) (Or.inl ⟨by rfl, ?_⟩) ?_ ?_
  rotate_left
  ·exact Z4
  rotate_left
  ·exact Z0
  refine pure_ (i := 6) (N := some 132) (v := ?_) (a' := ?_) (bl 13 111) rfl rfl (by kernel_rfl) (fun _ _ _ h => h) (Or.inl ⟨by rfl, ?_⟩) ?_ ?_
  rotate_left
  ·exact Z4
  rotate_left
  ·exact Z0
  refine pure_ (i := 7) (N := some 133) (v := ?_) (a' := ?_) (bl 13 239) rfl rfl (by kernel_rfl) (fun _ _ _ h => h) (Or.inl ⟨by rfl, ?_⟩) ?_ ?_
  rotate_left
  ·exact Z4
  rotate_left
  ·exact Z0
  refine pure_ (i := 8) (N := some 134) (v := ?_) (a' := ?_) (bl 13 495) rfl rfl (by kernel_rfl) (fun _ _ _ h => h) (Or.inl ⟨by rfl, ?_⟩) ?_ ?_
  rotate_left
  ·exact Z4
  rotate_left
  ·exact Z0
  refine pure_ (i := 11) (N := some 137) (v := ?_) (a' := ?_) (bl 13 2543) rfl rfl (by kernel_rfl) (fun _ _ _ h => h) (Or.inl ⟨by rfl, ?_⟩) ?_ ?_
  rotate_left
  ·exact Z4
  rotate_left
  ·exact Z0
  refine take_ (i := 4) (N := some 130) (v := ?_) (a' := ?_) (bl 13 2559) rfl rfl (by kernel_rfl) (fun _ _ _ h => h) (Or.inl ⟨by rfl, ?_⟩) hHeld ?_ ?_
  rotate_left
  ·exact Z8
  rotate_left
  ·exact Z0
  refine take_ (i := 9) (N := some 135) (v := ?_) (a' := ?_) (bl 13 3071) rfl rfl (by kernel_rfl) (fun _ _ _ h => h) (Or.inl ⟨by rfl, ?_⟩) hHeld ?_ ?_
  rotate_left
  ·exact Z8
  rotate_left
  ·exact Z0
  refine pure_ (i := 10) (N := some 136) (v := ?_) (a' := ?_) (bl 13 4095) rfl rfl (by kernel_rfl) (fun _ _ _ h => h) (Or.inl ⟨by rfl, ?_⟩) ?_ ?_
  rotate_left
  ·exact Z4
  rotate_left
  ·exact Z0
  refine last_ (i := 12) (N := some 138) (bl 13 8191) rfl rfl (by kernel_rfl) (by decide) (fun K hK => ?_)
  refine goes_ Tryd.func96 (by kernel_rfl) rfl #[.pointer (some ⟨R, 0, none⟩), .int .i64 2, .string (st.s.extract st.at_ (st.at_ + 1)), .int .i64 st.at_] (by rfl) rfl rfl Z23 ?_
  with_reducible refine (HP.out).mono ?_
  rintro e w2 ⟨rfl, hr2, hb2⟩
  refine ⟨_, rfl, ?_⟩
  refine hK.out _ _ ?_
  clear hK K
  refine norm_ (a' := ?_) ?_ ?_
  rotate_left
  ·show Act.put _ (some 138) _ = _
   simp only [Act.put, sA_, s0_, s1_, i64_w, i32_w]
   rfl
  refine done_ (by kernel_rfl) ?_
  go_wp2
  go_end0
  exact ⟨rfl, hr2, HA.out.hb.trans (below_drew' hb2)⟩
set_option maxRecDepth 100000 in
set_option maxHeartbeats 8000000 in
theorem one_d1 (R : Nat) (st : RS) (vS vF : Value) (w : World) (hGL : GL w) (hR5 : 5 ≤ R) (hI : Inv st) (hlt : st.at_ < st.s.size) (k59 : (((st.s[st.at_]'hlt).toNat : Int) == 59) = false) (k34 : (((st.s[st.at_]'hlt).toNat : Int) == 34) = false) (k92 : (((st.s[st.at_]'hlt).toNat : Int) == 92) = false) (k95 : (((st.s[st.at_]'hlt).toNat : Int) == 95) = false) (k44 : (((st.s[st.at_]'hlt).toNat : Int) == 44) = false) (k48 : (((st.s[st.at_]'hlt).toNat : Int) == 48) = false) (k35 : (((st.s[st.at_]'hlt).toNat : Int) == 35) = true) (h : Rd R w st vS vF) :
  Calls Tryd.prog 68 #[.pointer (some ⟨R, 0, none⟩)] w (Res R w (putM 2 (st.s.extract st.at_ (st.at_ + 1)) st.at_ { st with at_ := st.at_ + 1 })) := by
 have hc0 := h.c0
 have hc1 := h.c1
 have hf1 := blk_frozen h.blk 1
 have HA := Aside0.mk h.at1
 have hd0 := HA.out.hr.c0
 have hd1 := HA.out.hr.c1.trans (show _ = some (Value.int .i64 ((st.at_ : Int) + 1)) by simp)
 have hsz := hI.sz
 have hi0 : (0 : Int) ≤ (st.at_ : Int) := by omega
 have hltc : (st.at_ : Int) < (st.s.size : Int) := by omega
 have hI1 : Inv { st with at_ := st.at_ + 1 } := hI.at_ (st.at_ + 1) (by omega) (by omega)
 have HI := Aside0.mk hI1
 have HG := Aside0.mk hGL
 have HR5 := Aside0.mk hR5
 have HIS := Aside0.mk hI
 clear h hI hI1 hGL hR5
 have hx1 : (st.at_ : Int) ≤ (st.at_ : Int) + 1 := by omega
 have hx2 : (st.at_ : Int) + 1 ≤ (st.s.size : Int) := by omega
 have hx4 : ((st.at_ : Int) + 1).toNat = st.at_ + 1 := by omega
 rcases hres : putM 2 (st.s.extract st.at_ (st.at_ + 1)) st.at_ { st with at_ := st.at_ + 1 } with x | st'
 ·have HP := Aside0.mk (put_err hres HI.out (Rd.drew HA.out.hr))
  clear hres
  go_enter Tryd.func68, Tryd.ntmps68
  go_wp2_with (fail)
  refine start_ (n := 13) (S := fun w' => w'.cell? ⟨R, 0, none⟩ = some (.string st.s) ∧ w'.cell? ⟨R, 1, none⟩ = some (.int .i64 ((st.at_ : Int) + 1))) (ds := []) (bl 13 0) (by kernel_rfl) rfl (by kernel_rfl) ⟨hd0, hd1⟩ (fun hHeld => ?_)
  refine pure_ (i := 0) (N := some 126) (v := ?_) (a' := ?_) (bl 13 1) rfl rfl (by kernel_rfl) (fun _ _ _ h => h) (Or.inl ⟨by rfl, ?_⟩) ?_ ?_
  rotate_left
  ·exact Z4
  rotate_left
  ·exact Z0
  refine pure_ (i := 1) (N := some 127) (v := ?_) (a' := ?_) (bl 13 3) rfl rfl (by kernel_rfl) (fun _ _ _ h => h) (Or.inl ⟨by rfl, ?_⟩) ?_ ?_
  rotate_left
  ·exact Z4
  rotate_left
  ·exact Z0
  refine pure_ (i := 2) (N := some 128) (v := ?_) (a' := ?_) (bl 13 7) rfl rfl (by kernel_rfl) (fun _ _ _ h => h) (Or.inl ⟨by rfl, ?_⟩) ?_ ?_
  rotate_left
  ·exact Z4
  rotate_left
  ·exact Z0
  refine pure_ (i := 3) (N := some 129) (v := ?_) (a' := ?_) (bl 13 15) rfl rfl (by kernel_rfl) (fun _ _ _ h => h) (Or.inl ⟨by rfl, ?_⟩) ?_ ?_
  rotate_left
  ·exact Z4
  rotate_left
  ·exact Z0
  refine pure_ (i := 5) (N := some 131) (v := ?_) (a' := ?_) (bl 13 47) rfl rfl (by kernel_rfl) (fun _ _ _ h => h) (Or.inl ⟨by rfl, ?_⟩) ?_ ?_
  rotate_left
  ·exact Z4
  rotate_left
  ·exact Z0
  refine pure_ (i := 6) (N := some 132) (v := ?_) (a' := ?_) (bl 13 111) rfl rfl (by kernel_rfl) (fun _ _ _ h => h) (Or.inl ⟨by rfl, ?_⟩) ?_ ?_
  rotate_left
  ·exact Z4
  rotate_left
  ·exact Z0
  refine pure_ (i := 7) (N := some 133) (v := ?_) (a' := ?_) (bl 13 239) rfl rfl (by kernel_rfl) (fun _ _ _ h => h) (Or.inl ⟨by rfl, ?_⟩) ?_ ?_
  rotate_left
  ·exact Z4
  rotate_left
  ·exact Z0
  refine pure_ (i := 8) (N := some 134) (v := ?_) (a' := ?_) (bl 13 495) rfl rfl (by kernel_rfl) (fun _ _ _ h => h) (Or.inl ⟨by rfl, ?_⟩) ?_ ?_
  rotate_left
  ·exact Z4
  rotate_left
  ·exact Z0
  refine pure_ (i := 11) (N := some 137) (v := ?_) (a' := ?_) (bl 13 2543) rfl rfl (by kernel_rfl) (fun _ _ _ h => h) (Or.inl ⟨by rfl, ?_⟩) ?_ ?_
  rotate_left
  ·exact Z4
  rotate_left
  ·exact Z0
  refine take_ (i := 4) (N := some 130) (v := ?_) (a' := ?_) (bl 13 2559) rfl rfl (by kernel_rfl) (fun _ _ _ h => h) (Or.inl ⟨by rfl, ?_⟩) hHeld ?_ ?_
  rotate_left
  ·exact Z8
  rotate_left
  ·exact Z0
  refine take_ (i := 9) (N := some 135) (v := ?_) (a' := ?_) (bl 13 3071) rfl rfl (by kernel_rfl) (fun _ _ _ h => h) (Or.inl ⟨by rfl, ?_⟩) hHeld ?_ ?_
  rotate_left
  ·exact Z8
  rotate_left
  ·exact Z0
  refine pure_ (i := 10) (N := some 136) (v := ?_) (a' := ?_) (bl 13 4095) rfl rfl (by kernel_rfl) (fun _ _ _ h => h) (Or.inl ⟨by rfl, ?_⟩) ?_ ?_
  rotate_left
  ·exact Z4
  rotate_left
  ·exact Z0
  refine one_ (i := 12) (N := some 138) (bl 13 8191) rfl rfl (by kernel_rfl) (by decide) (fun K hK => ?_)
  refine fails_ Tryd.func96 (by kernel_rfl) rfl #[.pointer (some ⟨R, 0, none⟩), .int .i64 2, .string (st.s.extract st.at_ (st.at_ + 1)), .int .i64 st.at_] (by rfl) rfl rfl Z23 ?_
  with_reducible refine (HP.out).mono ?_
  rintro e w2 ⟨rfl, hb2⟩
  refine ⟨_, rfl, ?_⟩
  exact ⟨rfl, And.intro rfl (HA.out.hb.trans (below_drew' hb2))⟩
 ·have HP := Aside0.mk (put_fine hres HI.out (Rd.drew HA.out.hr))
  clear hres
  go_enter Tryd.func68, Tryd.ntmps68
  go_wp2_with (fail)
  refine start_ (n := 13) (S := fun w' => w'.cell? ⟨R, 0, none⟩ = some (.string st.s) ∧ w'.cell? ⟨R, 1, none⟩ = some (.int .i64 ((st.at_ : Int) + 1))) (ds := [12]) (bl 13 0) (by kernel_rfl) rfl (by kernel_rfl) ⟨hd0, hd1⟩ (fun hHeld => ?_)
  refine pure_ (i := 0) (N := some 126) (v := ?_) (a' := ?_) (bl 13 1) rfl rfl (by kernel_rfl) (fun _ _ _ h => h) (Or.inl ⟨by rfl, ?_⟩) ?_ ?_
  rotate_left
  ·exact Z4
  rotate_left
  ·exact Z0
  refine pure_ (i := 1) (N := some 127) (v := ?_) (a' := ?_) (bl 13 3) rfl rfl (by kernel_rfl) (fun _ _ _ h => h) (Or.inl ⟨by rfl, ?_⟩) ?_ ?_
  rotate_left
  ·exact Z4
  rotate_left
  ·exact Z0
  refine pure_ (i := 2) (N := some 128) (v := ?_) (a' := ?_) (bl 13 7) rfl rfl (by kernel_rfl) (fun _ _ _ h => h) (Or.inl ⟨by rfl, ?_⟩) ?_ ?_
  rotate_left
  ·exact Z4
  rotate_left
  ·exact Z0
  refine pure_ (i := 3) (N := some 129) (v := ?_) (a' := ?_) (bl 13 15) rfl rfl (by kernel_rfl) (fun _ _ _ h => h) (Or.inl ⟨by rfl, ?_⟩) ?_ ?_
  rotate_left
  ·exact Z4
  rotate_left
  ·exact Z0
  refine pure_ (i := 5) (N := some 131) (v := ?_) (a' := ?_) (bl 13 47) rfl rfl (by kernel_rfl) (fun _ _ _ h => h) (Or.inl ⟨by rfl, ?_⟩) ?_ ?_
  rotate_left
  ·exact Z4
  rotate_left
  ·exact Z0
  refine pure_ (i := 6) (N := some 132) (v := ?_) (a' := ?_) (bl 13 111) rfl rfl (by kernel_rfl) (fun _ _ _ h => h) (Or.inl ⟨by rfl, ?_⟩) ?_ ?_
  rotate_left
  ·exact Z4
  rotate_left
  ·exact Z0
  refine pure_ (i := 7) (N := some 133) (v := ?_) (a' := ?_) (bl 13 239) rfl rfl (by kernel_rfl) (fun _ _ _ h => h) (Or.inl ⟨by rfl, ?_⟩) ?_ ?_
  rotate_left
  ·exact Z4
  rotate_left
  ·exact Z0
  refine pure_ (i := 8) (N := some 134) (v := ?_) (a' := ?_) (bl 13 495) rfl rfl (by kernel_rfl) (fun _ _ _ h => h) (Or.inl ⟨by rfl, ?_⟩) ?_ ?_
  rotate_left
  ·exact Z4
  rotate_left
  ·exact Z0
  refine pure_ (i := 11) (N := some 137) (v := ?_) (a' := ?_) (bl 13 2543) rfl rfl (by kernel_rfl) (fun _ _ _ h => h) (Or.inl ⟨by rfl, ?_⟩) ?_ ?_
  rotate_left
  ·exact Z4
  rotate_left
  ·exact Z0
  refine take_ (i := 4) (N := some 130) (v := ?_) (a' := ?_) (bl 13 2559) rfl rfl (by kernel_rfl) (fun _ _ _ h => h) (Or.inl ⟨by rfl, ?_⟩) hHeld ?_ ?_
  rotate_left
  ·exact Z8
  rotate_left
  ·exact Z0
  refine take_ (i := 9) (N := some 135) (v := ?_) (a' := ?_) (bl 13 3071) rfl rfl (by kernel_rfl) (fun _ _ _ h => h) (Or.inl ⟨by rfl, ?_⟩) hHeld ?_ ?_
  rotate_left
  ·exact Z8
  rotate_left
  ·exact Z0
  refine pure_ (i := 10) (N := some 136) (v := ?_) (a' := ?_) (bl 13 4095) rfl rfl (by kernel_rfl) (fun _ _ _ h => h) (Or.inl ⟨by rfl, ?_⟩) ?_ ?_
  rotate_left
  ·exact Z4
  rotate_left
  ·exact Z0
  refine last_ (i := 12) (N := some 138) (bl 13 8191) rfl rfl (by kernel_rfl) (by decide) (fun K hK => ?_)
  refine goes_ Tryd.func96 (by kernel_rfl) rfl #[.pointer (some ⟨R, 0, none⟩), .int .i64 2, .string (st.s.extract st.at_ (st.at_ + 1)), .int .i64 st.at_] (by rfl) rfl rfl Z23 ?_
  with_reducible refine (HP.out).mono ?_
  rintro e w2 ⟨rfl, hr2, hb2⟩
  refine ⟨_, rfl, ?_⟩
  refine hK.out _ _ ?_
  clear hK K
  refine norm_ (a' := ?_) ?_ ?_
  rotate_left
  ·show Act.put _ (some 138) _ = _
   simp only [Act.put, sA_, s0_, s1_, i64_w, i32_w]
   rfl
  refine done_ (by kernel_rfl) ?_
  go_wp2
  go_end0
  exact ⟨rfl, hr2, HA.out.hb.trans (below_drew' hb2)⟩
set_option maxRecDepth 100000 in
set_option maxHeartbeats 8000000 in
theorem one_d2 (R : Nat) (st : RS) (vS vF : Value) (w : World) (hGL : GL w) (hR5 : 5 ≤ R) (hI : Inv st) (hlt : st.at_ < st.s.size) (k59 : (((st.s[st.at_]'hlt).toNat : Int) == 59) = false) (k34 : (((st.s[st.at_]'hlt).toNat : Int) == 34) = false) (k92 : (((st.s[st.at_]'hlt).toNat : Int) == 92) = false) (k95 : (((st.s[st.at_]'hlt).toNat : Int) == 95) = false) (k44 : (((st.s[st.at_]'hlt).toNat : Int) == 44) = false) (k48 : (((st.s[st.at_]'hlt).toNat : Int) == 48) = false) (k35 : (((st.s[st.at_]'hlt).toNat : Int) == 35) = false) (k63 : (((st.s[st.at_]'hlt).toNat : Int) == 63) = true) (h : Rd R w st vS vF) :
  Calls Tryd.prog 68 #[.pointer (some ⟨R, 0, none⟩)] w (Res R w (putM 2 (st.s.extract st.at_ (st.at_ + 1)) st.at_ { st with at_ := st.at_ + 1 })) := by
 have hc0 := h.c0
 have hc1 := h.c1
 have hf1 := blk_frozen h.blk 1
 have HA := Aside0.mk h.at1
 have hd0 := HA.out.hr.c0
 have hd1 := HA.out.hr.c1.trans (show _ = some (Value.int .i64 ((st.at_ : Int) + 1)) by simp)
 have hsz := hI.sz
 have hi0 : (0 : Int) ≤ (st.at_ : Int) := by omega
 have hltc : (st.at_ : Int) < (st.s.size : Int) := by omega
 have hI1 : Inv { st with at_ := st.at_ + 1 } := hI.at_ (st.at_ + 1) (by omega) (by omega)
 have HI := Aside0.mk hI1
 have HG := Aside0.mk hGL
 have HR5 := Aside0.mk hR5
 have HIS := Aside0.mk hI
 clear h hI hI1 hGL hR5
 have hx1 : (st.at_ : Int) ≤ (st.at_ : Int) + 1 := by omega
 have hx2 : (st.at_ : Int) + 1 ≤ (st.s.size : Int) := by omega
 have hx4 : ((st.at_ : Int) + 1).toNat = st.at_ + 1 := by omega
 rcases hres : putM 2 (st.s.extract st.at_ (st.at_ + 1)) st.at_ { st with at_ := st.at_ + 1 } with x | st'
 ·have HP := Aside0.mk (put_err hres HI.out (Rd.drew HA.out.hr))
  clear hres
  go_enter Tryd.func68, Tryd.ntmps68
  go_wp2_with (fail)
  refine start_ (n := 13) (S := fun w' => w'.cell? ⟨R, 0, none⟩ = some (.string st.s) ∧ w'.cell? ⟨R, 1, none⟩ = some (.int .i64 ((st.at_ : Int) + 1))) (ds := []) (bl 13 0) (by kernel_rfl) rfl (by kernel_rfl) ⟨hd0, hd1⟩ (fun hHeld => ?_)
  refine pure_ (i := 0) (N := some 126) (v := ?_) (a' := ?_) (bl 13 1) rfl rfl (by kernel_rfl) (fun _ _ _ h => h) (Or.inl ⟨by rfl, ?_⟩) ?_ ?_
  rotate_left
  ·exact Z4
  rotate_left
  ·exact Z0
  refine pure_ (i := 1) (N := some 127) (v := ?_) (a' := ?_) (bl 13 3) rfl rfl (by kernel_rfl) (fun _ _ _ h => h) (Or.inl ⟨by rfl, ?_⟩) ?_ ?_
  rotate_left
  ·exact Z4
  rotate_left
  ·exact Z0
  refine pure_ (i := 2) (N := some 128) (v := ?_) (a' := ?_) (bl 13 7) rfl rfl (by kernel_rfl) (fun _ _ _ h => h) (Or.inl ⟨by rfl, ?_⟩) ?_ ?_
  rotate_left
  ·exact Z4
  rotate_left
  ·exact Z0
  refine pure_ (i := 3) (N := some 129) (v := ?_) (a' := ?_) (bl 13 15) rfl rfl (by kernel_rfl) (fun _ _ _ h => h) (Or.inl ⟨by rfl, ?_⟩) ?_ ?_
  rotate_left
  ·exact Z4
  rotate_left
  ·exact Z0
  refine pure_ (i := 5) (N := some 131) (v := ?_) (a' := ?_) (bl 13 47) rfl rfl (by kernel_rfl) (fun _ _ _ h => h) (Or.inl ⟨by rfl, ?_⟩) ?_ ?_
  rotate_left
  ·exact Z4
  rotate_left
  ·exact Z0
  refine pure_ (i := 6) (N := some 132) (v := ?_) (a' := ?_) (bl 13 111) rfl rfl (by kernel_rfl) (fun _ _ _ h => h) (Or.inl ⟨by rfl, ?_⟩) ?_ ?_
  rotate_left
  ·exact Z4
  rotate_left
  ·exact Z0
  refine pure_ (i := 7) (N := some 133) (v := ?_) (a' := ?_) (bl 13 239) rfl rfl (by kernel_rfl) (fun _ _ _ h => h) (Or.inl ⟨by rfl, ?_⟩) ?_ ?_
  rotate_left
  ·exact Z4
  rotate_left
  ·exact Z0
  refine pure_ (i := 8) (N := some 134) (v := ?_) (a' := ?_) (bl 13 495) rfl rfl (by kernel_rfl) (fun _ _ _ h => h) (Or.inl ⟨by rfl, ?_⟩) ?_ ?_
  rotate_left
  ·exact Z4
  rotate_left
  ·exact Z0
  refine pure_ (i := 11) (N := some 137) (v := ?_) (a' := ?_) (bl 13 2543) rfl rfl (by kernel_rfl) (fun _ _ _ h => h) (Or.inl ⟨by rfl, ?_⟩) ?_ ?_
  rotate_left
  ·exact Z4
  rotate_left
  ·exact Z0
  refine take_ (i := 4) (N := some 130) (v := ?_) (a' := ?_) (bl 13 2559) rfl rfl (by kernel_rfl) (fun _ _ _ h => h) (Or.inl ⟨by rfl, ?_⟩) hHeld ?_ ?_
  rotate_left
  ·exact Z8
  rotate_left
  ·exact Z0
  refine take_ (i := 9) (N := some 135) (v := ?_) (a' := ?_) (bl 13 3071) rfl rfl (by kernel_rfl) (fun _ _ _ h => h) (Or.inl ⟨by rfl, ?_⟩) hHeld ?_ ?_
  rotate_left
  ·exact Z8
  rotate_left
  ·exact Z0
  refine pure_ (i := 10) (N := some 136) (v := ?_) (a' := ?_) (bl 13 4095) rfl rfl (by kernel_rfl) (fun _ _ _ h => h) (Or.inl ⟨by rfl, ?_⟩) ?_ ?_
  rotate_left
  ·exact Z4
  rotate_left
  ·exact Z0
  refine one_ (i := 12) (N := some 138) (bl 13 8191) rfl rfl (by kernel_rfl) (by decide) (fun K hK => ?_)
  refine fails_ Tryd.func96 (by kernel_rfl) rfl #[.pointer (some ⟨R, 0, none⟩), .int .i64 2, .string (st.s.extract st.at_ (st.at_ + 1)), .int .i64 st.at_] (by rfl) rfl rfl Z23 ?_
  with_reducible refine (HP.out).mono ?_
  rintro e w2 ⟨rfl, hb2⟩
  refine ⟨_, rfl, ?_⟩
  exact ⟨rfl, And.intro rfl (HA.out.hb.trans (below_drew' hb2))⟩
 ·have HP := Aside0.mk (put_fine hres HI.out (Rd.drew HA.out.hr))
  clear hres
  go_enter Tryd.func68, Tryd.ntmps68
  go_wp2_with (fail)
  refine start_ (n := 13) (S := fun w' => w'.cell? ⟨R, 0, none⟩ = some (.string st.s) ∧ w'.cell? ⟨R, 1, none⟩ = some (.int .i64 ((st.at_ : Int) + 1))) (ds := [12]) (bl 13 0) (by kernel_rfl) rfl (by kernel_rfl) ⟨hd0, hd1⟩ (fun hHeld => ?_)
  refine pure_ (i := 0) (N := some 126) (v := ?_) (a' := ?_) (bl 13 1) rfl rfl (by kernel_rfl) (fun _ _ _ h => h) (Or.inl ⟨by rfl, ?_⟩) ?_ ?_
  rotate_left
  ·exact Z4
  rotate_left
  ·exact Z0
  refine pure_ (i := 1) (N := some 127) (v := ?_) (a' := ?_) (bl 13 3) rfl rfl (by kernel_rfl) (fun _ _ _ h => h) (Or.inl ⟨by rfl, ?_⟩) ?_ ?_
  rotate_left
  ·exact Z4
  rotate_left
  ·exact Z0
  refine pure_ (i := 2) (N := some 128) (v := ?_) (a' := ?_) (bl 13 7) rfl rfl (by kernel_rfl) (fun _ _ _ h => h) (Or.inl ⟨by rfl, ?_⟩) ?_ ?_
  rotate_left
  ·exact Z4
  rotate_left
  ·exact Z0
  refine pure_ (i := 3) (N := some 129) (v := ?_) (a' := ?_) (bl 13 15) rfl rfl (by kernel_rfl) (fun _ _ _ h => h) (Or.inl ⟨by rfl, ?_⟩) ?_ ?_
  rotate_left
  ·exact Z4
  rotate_left
  ·exact Z0
  refine pure_ (i := 5) (N := some 131) (v := ?_) (a' := ?_) (bl 13 47) rfl rfl (by kernel_rfl) (fun _ _ _ h => h) (Or.inl ⟨by rfl, ?_⟩) ?_ ?_
  rotate_left
  ·exact Z4
  rotate_left
  ·exact Z0
  refine pure_ (i := 6) (N := some 132) (v := ?_) (a' := ?_) (bl 13 111) rfl rfl (by kernel_rfl) (fun _ _ _ h => h) (Or.inl ⟨by rfl, ?_⟩) ?_ ?_
  rotate_left
  ·exact Z4
  rotate_left
  ·exact Z0
  refine pure_ (i := 7) (N := some 133) (v := ?_) (a' := ?_) (bl 13 239) rfl rfl (by kernel_rfl) (fun _ _ _ h => h) (Or.inl ⟨by rfl, ?_⟩) ?_ ?_
  rotate_left
  ·exact Z4
  rotate_left
  ·exact Z0
  refine pure_ (i := 8) (N := some 134) (v := ?_) (a' := ?_) (bl 13 495) rfl rfl (by kernel_rfl) (fun _ _ _ h => h) (Or.inl ⟨by rfl, ?_⟩) ?_ ?_
  rotate_left
  ·exact Z4
  rotate_left
  ·exact Z0
  refine pure_ (i := 11) (N := some 137) (v := ?_) (a' := ?_) (bl 13 2543) rfl rfl (by kernel_rfl) (fun _ _ _ h => h) (Or.inl ⟨by rfl, ?_⟩) ?_ ?_
  rotate_left
  ·exact Z4
  rotate_left
  ·exact Z0
  refine take_ (i := 4) (N := some 130) (v := ?_) (a' := ?_) (bl 13 2559) rfl rfl (by kernel_rfl) (fun _ _ _ h => h) (Or.inl ⟨by rfl, ?_⟩) hHeld ?_ ?_
  rotate_left
  ·exact Z8
  rotate_left
  ·exact Z0
  refine take_ (i := 9) (N := some 135) (v := ?_) (a' := ?_) (bl 13 3071) rfl rfl (by kernel_rfl) (fun _ _ _ h => h) (Or.inl ⟨by rfl, ?_⟩) hHeld ?_ ?_
  rotate_left
  ·exact Z8
  rotate_left
  ·exact Z0
  refine pure_ (i := 10) (N := some 136) (v := ?_) (a' := ?_) (bl 13 4095) rfl rfl (by kernel_rfl) (fun _ _ _ h => h) (Or.inl ⟨by rfl, ?_⟩) ?_ ?_
  rotate_left
  ·exact Z4
  rotate_left
  ·exact Z0
  refine last_ (i := 12) (N := some 138) (bl 13 8191) rfl rfl (by kernel_rfl) (by decide) (fun K hK => ?_)
  refine goes_ Tryd.func96 (by kernel_rfl) rfl #[.pointer (some ⟨R, 0, none⟩), .int .i64 2, .string (st.s.extract st.at_ (st.at_ + 1)), .int .i64 st.at_] (by rfl) rfl rfl Z23 ?_
  with_reducible refine (HP.out).mono ?_
  rintro e w2 ⟨rfl, hr2, hb2⟩
  refine ⟨_, rfl, ?_⟩
  refine hK.out _ _ ?_
  clear hK K
  refine norm_ (a' := ?_) ?_ ?_
  rotate_left
  ·show Act.put _ (some 138) _ = _
   simp only [Act.put, sA_, s0_, s1_, i64_w, i32_w]
   rfl
  refine done_ (by kernel_rfl) ?_
  go_wp2
  go_end0
  exact ⟨rfl, hr2, HA.out.hb.trans (below_drew' hb2)⟩
set_option maxRecDepth 100000 in
set_option maxHeartbeats 8000000 in
theorem one_back (R : Nat) (st : RS) (vS vF : Value) (w : World) (hGL : GL w) (hR5 : 5 ≤ R) (hI : Inv st) (hlt : st.at_ < st.s.size) (k59 : (((st.s[st.at_]'hlt).toNat : Int) == 59) = false) (k34 : (((st.s[st.at_]'hlt).toNat : Int) == 34) = false) (k92 : (((st.s[st.at_]'hlt).toNat : Int) == 92) = true) (h : Rd R w st vS vF) :
  Calls Tryd.prog 68 #[.pointer (some ⟨R, 0, none⟩)] w (Res R w (bsM st.at_ { st with at_ := st.at_ + 1 })) := by
 have hc0 := h.c0
 have hc1 := h.c1
 have hf1 := blk_frozen h.blk 1
 have HA := Aside0.mk h.at1
 have hd0 := HA.out.hr.c0
 have hd1 := HA.out.hr.c1.trans (show _ = some (Value.int .i64 ((st.at_ : Int) + 1)) by simp)
 have hsz := hI.sz
 have hi0 : (0 : Int) ≤ (st.at_ : Int) := by omega
 have hltc : (st.at_ : Int) < (st.s.size : Int) := by omega
 have hI1 : Inv { st with at_ := st.at_ + 1 } := hI.at_ (st.at_ + 1) (by omega) (by omega)
 have HI := Aside0.mk hI1
 have HG := Aside0.mk hGL
 have HR5 := Aside0.mk hR5
 have HIS := Aside0.mk hI
 clear h hI hI1 hGL hR5
 unfold bsM
 by_cases hbad : badAt st.s (st.at_ + 1) = true
 ·rw [if_pos (show badAt (RS.s { st with at_ := st.at_ + 1 }) (RS.at_ { st with at_ := st.at_ + 1 }) = true from hbad)]
  have HP := Aside0.mk (rune1_panic R { st with at_ := st.at_ + 1 } vS vF st.at_ _ (HG.out.belowR HR5.out HA.out.hb) (show st.s.size ≤ 2000 by omega) hlt hbad HA.out.hr)
  have HZ := Aside0.mk (Nat.le_of_lt (blk_lt HA.out.hr.blk))
  go_enter Tryd.func68, Tryd.ntmps68
  go_wp2_with (fail)
  (with_reducible refine HP.out.mono ?_)
  rintro e w2 ⟨rfl, hb2⟩
  unfold fault
  go_wp2
  exact ⟨rfl, And.intro rfl (HA.out.hb.trans (hb2.mono HZ.out))⟩
 ·rw [if_neg (show ¬ badAt (RS.s { st with at_ := st.at_ + 1 }) (RS.at_ { st with at_ := st.at_ + 1 }) = true from hbad)]
  have HP := Aside0.mk (rune1_ok R { st with at_ := st.at_ + 1 } vS vF st.at_ _ (HG.out.belowR HR5.out HA.out.hb) (show st.s.size ≤ 2000 by omega) hlt (by simpa using hbad) HA.out.hr)
  have HI2 := Aside0.mk (HI.out.rune hlt)
  rcases hres : putM 1 (runeT { st with at_ := st.at_ + 1 }) st.at_ (runeS { st with at_ := st.at_ + 1 }) with x | st'
  ·have HQ := Aside0.mk (fun W (hr : Rd R W (runeS { st with at_ := st.at_ + 1 }) vS vF) => put_err hres HI2.out hr)
   clear hres
   go_enter Tryd.func68, Tryd.ntmps68
   go_wp2_with (fail)
   (with_reducible refine HP.out.mono ?_)
   rintro e w2 ⟨rfl, hr2, hb2⟩
   have HR2 := Aside0.mk hr2
   have HB2 := Aside0.mk hb2
   clear hr2 hb2
   go_wp2_with (fail)
   refine (HQ.out _ HR2.out).mono ?_
   rintro e w3 ⟨rfl, hb3⟩
   unfold fault
   go_wp2
   exact ⟨rfl, And.intro rfl (HA.out.hb.trans (HB2.out.trans hb3))⟩
  ·have HQ := Aside0.mk (fun W (hr : Rd R W (runeS { st with at_ := st.at_ + 1 }) vS vF) => put_fine hres HI2.out hr)
   clear hres
   go_enter Tryd.func68, Tryd.ntmps68
   go_wp2_with (fail)
   (with_reducible refine HP.out.mono ?_)
   rintro e w2 ⟨rfl, hr2, hb2⟩
   have HR2 := Aside0.mk hr2
   have HB2 := Aside0.mk hb2
   clear hr2 hb2
   go_wp2_with (fail)
   refine (HQ.out _ HR2.out).mono ?_
   rintro e w3 ⟨rfl, hr3, hb3⟩
   go_wp2
   go_end0
   exact ⟨rfl, hr3, HA.out.hb.trans (HB2.out.trans hb3)⟩
set_option maxRecDepth 100000 in
set_option maxHeartbeats 8000000 in
theorem one_under (R : Nat) (st : RS) (vS vF : Value) (w : World) (hGL : GL w) (hR5 : 5 ≤ R) (hI : Inv st) (hlt : st.at_ < st.s.size) (k59 : (((st.s[st.at_]'hlt).toNat : Int) == 59) = false) (k34 : (((st.s[st.at_]'hlt).toNat : Int) == 34) = false) (k92 : (((st.s[st.at_]'hlt).toNat : Int) == 92) = false) (k95 : (((st.s[st.at_]'hlt).toNat : Int) == 95) = true) (h : Rd R w st vS vF) :
  Calls Tryd.prog 68 #[.pointer (some ⟨R, 0, none⟩)] w (Res R w (usM st.at_ { st with at_ := st.at_ + 1 })) := by
 have hc0 := h.c0
 have hc1 := h.c1
 have hf1 := blk_frozen h.blk 1
 have HA := Aside0.mk h.at1
 have hd0 := HA.out.hr.c0
 have hd1 := HA.out.hr.c1.trans (show _ = some (Value.int .i64 ((st.at_ : Int) + 1)) by simp)
 have hsz := hI.sz
 have hi0 : (0 : Int) ≤ (st.at_ : Int) := by omega
 have hltc : (st.at_ : Int) < (st.s.size : Int) := by omega
 have hI1 : Inv { st with at_ := st.at_ + 1 } := hI.at_ (st.at_ + 1) (by omega) (by omega)
 have HI := Aside0.mk hI1
 have HG := Aside0.mk hGL
 have HR5 := Aside0.mk hR5
 have HIS := Aside0.mk hI
 clear h hI hI1 hGL hR5
 unfold usM
 by_cases hbad : badAt st.s (st.at_ + 1) = true
 ·rw [if_pos (show badAt (RS.s { st with at_ := st.at_ + 1 }) (RS.at_ { st with at_ := st.at_ + 1 }) = true from hbad)]
  have HP := Aside0.mk (rune1_panic R { st with at_ := st.at_ + 1 } vS vF st.at_ _ (HG.out.belowR HR5.out HA.out.hb) (show st.s.size ≤ 2000 by omega) hlt hbad HA.out.hr)
  have HZ := Aside0.mk (Nat.le_of_lt (blk_lt HA.out.hr.blk))
  go_enter Tryd.func68, Tryd.ntmps68
  go_wp2_with (fail)
  (with_reducible refine HP.out.mono ?_)
  rintro e w2 ⟨rfl, hb2⟩
  unfold fault
  go_wp2
  exact ⟨rfl, And.intro rfl (HA.out.hb.trans (hb2.mono HZ.out))⟩
 ·rw [if_neg (show ¬ badAt (RS.s { st with at_ := st.at_ + 1 }) (RS.at_ { st with at_ := st.at_ + 1 }) = true from hbad)]
  have HP := Aside0.mk (rune1_ok R { st with at_ := st.at_ + 1 } vS vF st.at_ _ (HG.out.belowR HR5.out HA.out.hb) (show st.s.size ≤ 2000 by omega) hlt (by simpa using hbad) HA.out.hr)
  have HI2 := Aside0.mk (HI.out.rune hlt)
  rcases hres : putM 1 ⟨#[32]⟩ st.at_ (runeS { st with at_ := st.at_ + 1 }) with x | st'
  ·have HQ := Aside0.mk (fun W (hr : Rd R W (runeS { st with at_ := st.at_ + 1 }) vS vF) => put_err hres HI2.out hr)
   clear hres
   go_enter Tryd.func68, Tryd.ntmps68
   go_wp2_with (fail)
   (with_reducible refine HP.out.mono ?_)
   rintro e w2 ⟨rfl, hr2, hb2⟩
   have HR2 := Aside0.mk hr2
   have HB2 := Aside0.mk hb2
   clear hr2 hb2
   go_wp2_with (fail)
   refine (HQ.out _ HR2.out).mono ?_
   rintro e w3 ⟨rfl, hb3⟩
   unfold fault
   go_wp2
   exact ⟨rfl, And.intro rfl (HA.out.hb.trans (HB2.out.trans hb3))⟩
  ·have HQ := Aside0.mk (fun W (hr : Rd R W (runeS { st with at_ := st.at_ + 1 }) vS vF) => put_fine hres HI2.out hr)
   clear hres
   go_enter Tryd.func68, Tryd.ntmps68
   go_wp2_with (fail)
   (with_reducible refine HP.out.mono ?_)
   rintro e w2 ⟨rfl, hr2, hb2⟩
   have HR2 := Aside0.mk hr2
   have HB2 := Aside0.mk hb2
   clear hr2 hb2
   go_wp2_with (fail)
   refine (HQ.out _ HR2.out).mono ?_
   rintro e w3 ⟨rfl, hr3, hb3⟩
   go_wp2
   go_end0
   exact ⟨rfl, hr3, HA.out.hb.trans (HB2.out.trans hb3)⟩
end Go.Proofs.YtmbhjogohfcjgaaDoor.P
