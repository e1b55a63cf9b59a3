/- The walk of reader.put. -/
import Derived.Test.YtmbhjogohfcjgaaDoorPq1
import Derived.Deep.RegionHeld3
namespace Go.Proofs.YtmbhjogohfcjgaaDoor.P
open Go.RowKit Go.Proofs.YtmbhjogohfcjgaaDoorW.PrintWords Go.Proofs.YtmbhjogohfcjgaaDoorW.PrintLast Go.Proofs.YtmbhjogohfcjgaaDoorW.PrintMore
set_option linter.unusedVariables false
set_option linter.unusedSimpArgs false
set_option maxHeartbeats 1000000 in
theorem put_panic (R : Nat) (st : RS) (vS vF : Value) (kind pl : Int) (text : ByteArray) (w : World) (h100 : st.items = 100) (h : Rd R w st vS vF) :
  Calls Tryd.prog 96 #[.pointer (some ⟨R, 0, none⟩), .int .i64 kind, .string text, .int .i64 pl] w fun e w' => e = fault 5 pl ∧ w = w' := by
 have hc : w.cell? ⟨R, 4, none⟩ = some (.int .i64 (100 : Nat)) := by rw [← h100]; exact (blk_cell h.blk 4).trans rfl
 have hpn : ∀ (t : TypeId) (v : Value) (w : World), (Instr.panic (.iface t v)).run Tryd.prog w = .halt (.panic (.iface t v)) w := fun _ _ _ => rfl
 clear h h100
 go_enter Tryd.func96, Tryd.ntmps96
 go_wp2
 exact ⟨rfl, rfl, rfl⟩
def lastSec (l : List S62) : S62 := l.getD (l.length - 1) z62
def addItem (l : List S62) (x : S88) : List S62 := l.set (l.length - 1) { lastSec l with f0 := (lastSec l).f0 ++ [x] }
def isOpen (kind : Int) (l : List S88) : Bool := kind == 2 && wEnd l == l.length
theorem addItem_last {l : List S62} (h : 0 < l.length) (x : S88) : (addItem l x).getD (l.length - 1) z62 = { lastSec l with f0 := (lastSec l).f0 ++ [x] } := by
 unfold addItem
 rw [List.getD_eq_getElem?_getD, List.getElem?_set_self (by omega)]; rfl
theorem addItem_len (l : List S62) (x : S88) : (addItem l x).length = l.length := by simp [addItem]
theorem typed_at {w : World} {g n cap e : Nat} (h : ∃ cells, w.heap[g]? = some (.cells cells e (0, 0))) : ∀ k, (Value.slice (some ⟨g, 0, none⟩) n cap).ownBlock = some k → ∃ cells, w.heap[k]? = some (.cells cells e (0, 0)) := by
 intro k hk
 obtain rfl : g = k := by simpa [Value.ownBlock] using hk
 exact h
set_option maxRecDepth 100000 in
set_option maxHeartbeats 8000000 in
theorem put_ok (R : Nat) (st : RS) (vS vF : Value) (kind pl : Int) (text : ByteArray) (w : World) (hi : st.items < 100) (hn : 0 < st.secs.length) (hn4 : st.secs.length ≤ 4) (hil : (lastSec st.secs).f0.length ≤ 1000) (h : Rd R w st vS vF) :
  Calls Tryd.prog 96 #[.pointer (some ⟨R, 0, none⟩), .int .i64 kind, .string text, .int .i64 pl] w fun e w' => e = .returned (.tuple #[]) ∧ (∃ vS' vF', Rd R w' { st with items := st.items + 1, secs := addItem st.secs ⟨kind, text⟩, open_ := isOpen kind ((lastSec st.secs).f0 ++ [⟨kind, text⟩]) } vS' vF') ∧ Below R w w' := by
 obtain ⟨g, cap, rfl, hgb, hgl, _⟩ := Kd.S_form h.hS hn
 have hblk := h.blk
 have hRlt := blk_lt hblk
 have HH := Aside0.mk h
 have hc4 : w.cell? ⟨R, 4, none⟩ = some (.int .i64 st.items) := (blk_cell hblk 4).trans rfl
 have hf4 := blk_frozen hblk 4
 have hi0 : ((st.items : Int) == 100) = false := beq_eq_false_iff_ne.mpr (by omega)
 have b1 := blk_set hblk 4 (.int .i64 ((st.items : Int) + 1))
 have s1 := Kd.S_set h.hS hblk (by decide) 4 (.int .i64 ((st.items : Int) + 1))
 have r1 := Kd.R_set h.hF hblk (by decide) 4 (.int .i64 ((st.items : Int) + 1))
 have hr1 : Rd R (w.setCell ⟨R, 4, none⟩ (.int .i64 ((st.items : Int) + 1))) { st with items := st.items + 1 } (.slice (some ⟨g, 0, none⟩) st.secs.length cap) vF := ⟨b1, s1, r1⟩
 have HR1 := Aside0.mk hr1
 have HB1 := Aside0.mk ((Below.refl R w).setCell (p := ⟨R, 4, none⟩) (Nat.le_refl R) (.int .i64 ((st.items : Int) + 1)))
 have HSX := Aside0.mk (section_walk R { st with items := st.items + 1 } g cap vF _ hn hn4 hr1)
 clear h hblk b1 s1 r1 hr1
 go_enter Tryd.func96, Tryd.ntmps96
 go_wp2_with (fail)
 (with_reducible refine HSX.out.mono ?_)
 rintro e w2 ⟨rfl, ⟨m, rfl⟩⟩
 have HR2 := Aside0.mk (Rd.drewN HR1.out m)
 have HB2 := Aside0.mk (pw_below_drewN HB1.out m)
 clear HR1 HB1 HSX hc4 hf4
 generalize (w.setCell ⟨R, 4, none⟩ (.int .i64 ((st.items : Int) + 1))).drewN m = W2 at HR2 HB2 ⊢
 obtain ⟨oki, c, hcl, hM, hcc, hfr, hoki, hH⟩ := Kd.S_elem HR2.out.hS z62 ((st.secs.length - 1 : Nat) : Int) (by omega) (by omega)
 rw [Int.toNat_natCast] at hM hcc hfr
 replace hM : k62.M W2 (R + 1) oki (lastSec st.secs) c := hM
 obtain ⟨v0, rfl, hv0⟩ := k62_openM hM
 have HV0 := Aside0.mk hv0
 have HH2 := Aside0.mk hH
 obtain ⟨A0, c0, hv0e, hl0, hC0⟩ := Kd.R_reads hv0
 subst hv0e
 have hx0 := hcc 0 _ rfl
 rw [Nat.add_zero, show k62.sz = 3 from rfl] at hx0
 have hgR : ¬ g = R := by omega
 have hs2 := blk_lt HR2.out.blk
 have HIL := Aside0.mk hil
 have hfr0 := hfr 0
 rw [Nat.add_zero, show k62.sz = 3 from rfl] at hfr0
 clear hM hcc hfr hoki hv0 hH hcl hl0 hC0 hil
 go_wp2_with (first | ((with_reducible refine gate_dst (N := 35) rfl ?_); refine Kd.R_append k88 (w0 := W2) (R + 1) rfl (.tmp 30) (.tmp 34) 60 88 (.agg #[.int .i64 0, .string ⟨#[]⟩]) 24 rfl Tryd.underlying60 infoItem rfl (by decide) (by omega) _ _ (⟨kind, text⟩ : S88) [.int .i64 kind, .string text] (fun k => oki k ∨ True ∧ W2.heap.size ≤ k) (fun _ => False) rfl rfl (k88_mkM _ _ _ _) (fun _ hk => hk.elim) (fun k hk => .inr ⟨trivial, hk⟩) (Kd.R_mono HV0.out (fun k hk => .inl hk)) (Below.refl _ _) hs2 (by have h9 := HIL.out; omega) ?_; intro v1 w3 hv1 hb3 hg3 hat3; obtain ⟨g1, cap1, hv1e, hg1b, hg1l, _⟩ := Kd.R_form hv1 (by simp); obtain ⟨n1, hn1⟩ : ∃ n1, ((lastSec st.secs).f0 ++ [(⟨kind, text⟩ : S88)]).length = n1 := ⟨_, rfl⟩; rw [hn1] at hv1e; subst hv1e; have HN1 := Aside0.mk hn1; clear hn1; have HV1 := Aside0.mk hv1; have HH3 := Aside0.mk (Kd.H_grown (Kd.H_widen HH2.out) hg3 (fun k hk => .inl (HV0.out.1 k hk))); have HBLK3 := Aside0.mk (blk_grown HR2.out.blk hg3 (Kd.R_ne HV0.out HR2.out.blk (by decide))); have HF3 := Aside0.mk (Kd.R_over' HR2.out.hF (Kd.R_typed HV0.out) (by decide) hg3); have HB3 := Aside0.mk (hb3.mono (Nat.le_succ R)); have HG3 : Aside0 (∃ cells, w3.heap[g]? = some (.cells cells 62 (0, 0))) := ⟨by obtain ⟨cs, hcs⟩ := Kd.S_typed HR2.out.hS g rfl; exact ⟨cs, blk_grown hcs hg3 (Kd.R_ne HV0.out hcs (by decide))⟩⟩; clear hv1 hb3 hg3 hat3 hg1b hg1l) | ((with_reducible refine gate_store (t := 60) (p := 37) rfl ?_); refine Kd.H_store k62 (w0 := w3) (R + 1) rfl rfl 60 (.tmp 37) (.tmp 35) rfl 62 ((st.secs.length - 1 : Nat) : Int) 0 st.secs { lastSec st.secs with f0 := (lastSec st.secs).f0 ++ [⟨kind, text⟩] } (.slice (some ⟨g1, 0, none⟩) n1 cap1) [.slice (some ⟨g1, 0, none⟩) n1 cap1] _ (fun _ => True) (fun k => oki k ∨ True ∧ W2.heap.size ≤ k) (fun k => oki k ∨ True ∧ W2.heap.size ≤ k) rfl (by rw [Int.toNat_natCast]; rfl) rfl rfl (show _ = some 1 from by kernel_rfl) (by simp [Value.oneCell']) HH3.out (by omega) (by omega) (by show 0 + 1 ≤ 3; omega) (k62_mkM _ _ _ _ HV1.out) (fun _ hk => hk) (Below.refl _ _) ?_; intro w4 hs4 hb4 hg4; rw [Int.toNat_natCast] at hs4; have HS4 := Aside0.mk (show Kd.S k62 62 w4 (R + 1) (fun _ => True) (.slice (some ⟨g, 0, none⟩) st.secs.length cap) (addItem st.secs ⟨kind, text⟩) from hs4); have HBLK4 := Aside0.mk (blk_grown HBLK3.out hg4 (by simp; omega)); have HF4 := Aside0.mk (Kd.R_over' (e' := 62) (v := .slice (some ⟨g, 0, none⟩) st.secs.length cap) HF3.out (typed_at HG3.out) (by decide) hg4); have HB4 := Aside0.mk (HB2.out.trans (HB3.out.trans (hb4.mono (Nat.le_succ R)))); clear hs4 hb4 hg4))
 have hr4 : Rd R w4 { st with items := st.items + 1, secs := addItem st.secs ⟨kind, text⟩ } (.slice (some ⟨g, 0, none⟩) st.secs.length cap) vF := ⟨HBLK4.out, HS4.out, HF4.out⟩
 have HR4 := Aside0.mk hr4
 have hq5 : w4.cell? ⟨R, 5, none⟩ = some (.bool st.open_) := (blk_cell hr4.blk 5).trans rfl
 have hz5 := blk_frozen hr4.blk 5
 clear hr4 HBLK4 HS4 HF4 HH2 HR2 HV0 HH3 HF3 HBLK3 HB2 HB3 HG3 HV1 hx0 hfr0 hi0
 by_cases k2 : kind = 2
 ·have k2b : (kind == 2) = true := beq_iff_eq.mpr k2
  have HK2 := Aside0.mk k2b
  clear k2
  obtain ⟨oki5, c5, hcl5, hM5, hcc5, hfr5, hoki5, hH5⟩ := Kd.S_elem HR4.out.hS z62 ((st.secs.length - 1 : Nat) : Int) (by omega) (by omega)
  rw [Int.toNat_natCast] at hM5 hcc5
  rw [show (addItem st.secs ⟨kind, text⟩).getD (st.secs.length - 1) z62 = _ from addItem_last hn _] at hM5
  obtain ⟨v5, rfl, hv5⟩ := k62_openM hM5
  obtain ⟨A5, c5', hv5e, hl5, hC5⟩ := Kd.R_reads hv5
  subst hv5e
  have hy0 := hcc5 0 _ rfl
  have hy1 := hcc5 1 _ rfl
  have hy2 := hcc5 2 _ rfl
  rw [show k62.sz = 3 from rfl] at hy0 hy1 hy2
  rw [Nat.add_zero] at hy0
  have HHD := Aside0.mk (fun W (hW : Below w4.heap.size w4 W) => head_walk A5 c5' ((lastSec st.secs).f0 ++ [(⟨kind, text⟩ : S88)]) (lastSec st.secs).f1 (lastSec st.secs).f2 W (Kd.C_below hC5 hW) hl5)
  clear hM5 hcc5 hfr5 hoki5 hv5 hH5 hcl5 hl5 hC5
  simp only [] at hy0 hy1 hy2
  have he5 : isOpen kind ((lastSec st.secs).f0 ++ [⟨kind, text⟩]) = (wEnd ((lastSec st.secs).f0 ++ [(⟨kind, text⟩ : S88)]) == ((lastSec st.secs).f0 ++ [(⟨kind, text⟩ : S88)]).length) := by unfold isOpen; rw [HK2.out]; rfl
  have HE5 := Aside0.mk he5
  clear he5
  generalize hn5 : ((lastSec st.secs).f0 ++ [(⟨kind, text⟩ : S88)]).length = n5 at *
  generalize wEnd ((lastSec st.secs).f0 ++ [(⟨kind, text⟩ : S88)]) = q5 at *
  clear hn5
  refine start_ (n := 19) (S := fun w' => w'.cell? ⟨g, (st.secs.length - 1) * 3, none⟩ = some (.slice A5 n5 c5') ∧ w'.cell? ⟨g, (st.secs.length - 1) * 3 + 1, none⟩ = some (.bool (lastSec st.secs).f1) ∧ w'.cell? ⟨g, (st.secs.length - 1) * 3 + 2, none⟩ = some (.int .i64 (lastSec st.secs).f2)) (ds := [18]) (bl 19 0) (by kernel_rfl) rfl (by kernel_rfl) ⟨hy0, hy1, hy2⟩ (fun hHeld => ?_)
  refine pure_ (i := 0) (N := some 38) (v := ?_) (a' := ?_) (bl 19 1) rfl rfl (by kernel_rfl) (fun _ _ _ h => h) (Or.inl ⟨by rfl, ?_⟩) ?_ ?_
  rotate_left
  ·exact Z4
  rotate_left
  ·exact Z0
  refine pure_ (i := 1) (N := some 39) (v := ?_) (a' := ?_) (bl 19 3) rfl rfl (by kernel_rfl) (fun _ _ _ h => h) (Or.inl ⟨by rfl, ?_⟩) ?_ ?_
  rotate_left
  ·exact Z4
  rotate_left
  ·exact Z0
  refine pure_ (i := 2) (N := some 40) (v := ?_) (a' := ?_) (bl 19 7) rfl rfl (by kernel_rfl) (fun _ _ _ h => h) (Or.inl ⟨by rfl, ?_⟩) ?_ ?_
  rotate_left
  ·exact Z4
  rotate_left
  ·exact Z0
  refine pure_ (i := 3) (N := some 41) (v := ?_) (a' := ?_) (bl 19 15) rfl rfl (by kernel_rfl) (fun _ _ _ h => h) (Or.inl ⟨by rfl, ?_⟩) ?_ ?_
  rotate_left
  ·exact Z4
  rotate_left
  ·exact Z0
  refine pure_ (i := 4) (N := some 42) (v := ?_) (a' := ?_) (bl 19 31) rfl rfl (by kernel_rfl) (fun _ _ _ h => h) (Or.inl ⟨by rfl, ?_⟩) ?_ ?_
  rotate_left
  ·exact Z4
  rotate_left
  ·exact Z0
  refine pure_ (i := 5) (N := some 43) (v := ?_) (a' := ?_) (bl 19 63) rfl rfl (by kernel_rfl) (fun _ _ _ h => h) (Or.inl ⟨by rfl, ?_⟩) ?_ ?_
  rotate_left
  ·exact Z4
  rotate_left
  ·exact Z0
  refine pure_ (i := 9) (N := some 47) (v := ?_) (a' := ?_) (bl 19 575) rfl rfl (by kernel_rfl) (fun _ _ _ h => h) (Or.inl ⟨by rfl, ?_⟩) ?_ ?_
  rotate_left
  ·exact Z4
  rotate_left
  ·exact Z0
  refine pure_ (i := 10) (N := some 48) (v := ?_) (a' := ?_) (bl 19 1599) rfl rfl (by kernel_rfl) (fun _ _ _ h => h) (Or.inl ⟨by rfl, ?_⟩) ?_ ?_
  rotate_left
  ·exact Z4
  rotate_left
  ·exact Z0
  refine pure_ (i := 11) (N := some 49) (v := ?_) (a' := ?_) (bl 19 3647) rfl rfl (by kernel_rfl) (fun _ _ _ h => h) (Or.inl ⟨by rfl, ?_⟩) ?_ ?_
  rotate_left
  ·exact Z4
  rotate_left
  ·exact Z0
  refine take_ (i := 6) (N := some 44) (v := ?_) (a' := ?_) (bl 19 3711) rfl rfl (by kernel_rfl) (fun _ _ _ h => h) (Or.inl ⟨by rfl, ?_⟩) hHeld ?_ ?_
  rotate_left
  ·rintro w' ⟨s0, s1, s2⟩
   go_simp
   with_reducible rfl
  rotate_left
  ·exact Z0
  refine take_ (i := 12) (N := some 50) (v := ?_) (a' := ?_) (bl 19 7807) rfl rfl (by kernel_rfl) (fun _ _ _ h => h) (Or.inl ⟨by rfl, ?_⟩) hHeld ?_ ?_
  rotate_left
  ·rintro w' ⟨s0, s1, s2⟩
   go_simp
   with_reducible rfl
  rotate_left
  ·exact Z0
  refine pure_ (i := 13) (N := some 51) (v := ?_) (a' := ?_) (bl 19 15999) rfl rfl (by kernel_rfl) (fun _ _ _ h => h) (Or.inl ⟨by rfl, ?_⟩) ?_ ?_
  rotate_left
  ·exact Z4
  rotate_left
  ·exact Z0
  refine one_ (i := 7) (N := some 45) (bl 19 16127) rfl rfl (by kernel_rfl) (by decide) (fun K hK => ?_)
  refine goes_ Tryd.func54 (by kernel_rfl) rfl #[.agg #[.slice A5 n5 c5', .bool (lastSec st.secs).f1, .int .i64 (lastSec st.secs).f2]] (by rfl) rfl rfl Z23 ?_
  with_reducible refine (HHD.out _ (below_drew (Below.refl _ _))).mono ?_
  rintro e w5 ⟨rfl, hb5⟩
  refine ⟨_, rfl, ?_⟩
  have HB5 := Aside0.mk ((below_drew (Below.refl w4.heap.size w4)).trans hb5)
  have hq5' : w5.cell? ⟨R, 5, none⟩ = some (.bool st.open_) := (HB5.out.cell (World.block_lt_of_cell? w4 _ hq5)).trans hq5
  have hz5' : w5.frozen? ⟨R, 5, none⟩ = false := (HB5.out.frozen (p := ⟨R, 5, none⟩) (World.block_lt_of_cell? w4 _ hq5)).trans hz5
  refine hK.out _ _ ⟨(HB5.out.cell (World.block_lt_of_cell? w4 _ hy0)).trans hy0, (HB5.out.cell (World.block_lt_of_cell? w4 _ hy1)).trans hy1, (HB5.out.cell (World.block_lt_of_cell? w4 _ hy2)).trans hy2⟩ (fun hHeld => ?_)
  clear hK K
  refine norm_ (a' := ?_) ?_ ?_
  rotate_left
  ·show Act.put _ (some 45) _ = _
   simp only [Act.put, sA_, s0_, s1_, i64_w, i32_w]
   rfl
  refine pure_ (i := 8) (N := some 46) (v := ?_) (a' := ?_) (bl 19 16383) rfl rfl (by kernel_rfl) (fun _ _ _ h => h) (Or.inl ⟨by rfl, ?_⟩) ?_ ?_
  rotate_left
  ·exact Z4
  rotate_left
  ·exact Z0
  refine pure_ (i := 14) (N := some 52) (v := ?_) (a' := ?_) (bl 19 32767) rfl rfl (by kernel_rfl) (fun _ _ _ h => h) (Or.inl ⟨by rfl, ?_⟩) ?_ ?_
  rotate_left
  ·exact Z4
  rotate_left
  ·exact Z0
  refine pure_ (i := 15) (N := some 53) (v := ?_) (a' := ?_) (bl 19 65535) rfl rfl (by kernel_rfl) (fun _ _ _ h => h) (Or.inl ⟨by rfl, ?_⟩) ?_ ?_
  rotate_left
  ·exact Z4
  rotate_left
  ·exact Z0
  refine pure_ (i := 16) (N := some 54) (v := ?_) (a' := ?_) (bl 19 131071) rfl rfl (by kernel_rfl) (fun _ _ _ h => h) (Or.inl ⟨by rfl, ?_⟩) ?_ ?_
  rotate_left
  ·exact Z4
  rotate_left
  ·exact Z0
  refine pure_ (i := 17) (N := some 55) (v := ?_) (a' := ?_) (bl 19 262143) rfl rfl (by kernel_rfl) (fun _ _ _ h => h) (Or.inl ⟨by rfl, ?_⟩) ?_ ?_
  rotate_left
  ·exact Z4
  rotate_left
  ·exact Z0
  refine last_ (i := 18) (N := none) (bl 19 524287) rfl rfl (by kernel_rfl) (by decide) (fun K hK => ?_)
  refine skip_ (w1 := ?_) (by rfl) rfl ?_ ?_
  rotate_left
  ·go_simp
   rfl
  refine hK.out _ _ ?_
  clear hK K
  refine done_ (by kernel_rfl) ?_
  have hqn : ((q5 : Int) == (n5 : Int)) = (q5 == n5) := by rw [Bool.eq_iff_iff, beq_iff_eq, beq_iff_eq]; omega
  have HR5 := HR4.out.below HB5.out
  have HQN := Aside0.mk hqn
  clear hqn
  go_wp2
  go_end0
  rw [HE5.out, ← HQN.out]
  exact ⟨rfl, ⟨_, _, ⟨blk_set HR5.blk 5 _, Kd.S_set HR5.hS HR5.blk (by decide) 5 _, Kd.R_set HR5.hF HR5.blk (by decide) 5 _⟩⟩, (HB4.out.trans (HB5.out.mono (by have h1 := HB4.out.size; omega))).setCell (p := ⟨R, 5, none⟩) (Nat.le_refl R) _⟩
 ·have k2b : (kind == 2) = false := beq_eq_false_iff_ne.mpr k2
  have HK2 := Aside0.mk k2b
  clear k2
  refine start_ (n := 19) (S := fun w' => True) (ds := []) (bl 19 0) (by kernel_rfl) rfl (by kernel_rfl) trivial (fun hHeld => ?_)
  refine pure_ (i := 0) (N := some 38) (v := ?_) (a' := ?_) (bl 19 1) rfl rfl (by kernel_rfl) (fun _ _ _ h => h) (Or.inl ⟨by rfl, ?_⟩) ?_ ?_
  rotate_left
  ·exact Z4
  rotate_left
  ·exact Z0
  refine pure_ (i := 1) (N := some 39) (v := ?_) (a' := ?_) (bl 19 3) rfl rfl (by kernel_rfl) (fun _ _ _ h => h) (Or.inl ⟨by rfl, ?_⟩) ?_ ?_
  rotate_left
  ·exact Z4
  rotate_left
  ·exact Z0
  refine pure_ (i := 2) (N := some 40) (v := ?_) (a' := ?_) (bl 19 7) rfl rfl (by kernel_rfl) (fun _ _ _ h => h) (Or.inl ⟨by rfl, ?_⟩) ?_ ?_
  rotate_left
  ·exact Z4
  rotate_left
  ·exact Z0
  refine pure_ (i := 3) (N := some 41) (v := ?_) (a' := ?_) (bl 19 15) rfl rfl (by kernel_rfl) (fun _ _ _ h => h) (Or.inl ⟨by rfl, ?_⟩) ?_ ?_
  rotate_left
  ·exact Z4
  rotate_left
  ·exact Z0
  refine pure_ (i := 4) (N := some 42) (v := undef) (a' := ?_) (bl 19 31) rfl rfl (by kernel_rfl) (fun _ _ _ h => h) (Or.inr ⟨by rfl, rfl⟩) ?_ ?_
  rotate_left
  ·exact Z0
  refine pure_ (i := 5) (N := some 43) (v := undef) (a' := ?_) (bl 19 63) rfl rfl (by kernel_rfl) (fun _ _ _ h => h) (Or.inr ⟨by rfl, rfl⟩) ?_ ?_
  rotate_left
  ·exact Z0
  refine pure_ (i := 6) (N := some 44) (v := undef) (a' := ?_) (bl 19 127) rfl rfl (by kernel_rfl) (fun _ _ _ h => h) (Or.inr ⟨by rfl, rfl⟩) ?_ ?_
  rotate_left
  ·exact Z0
  refine pure_ (i := 7) (N := some 45) (v := undef) (a' := ?_) (bl 19 255) rfl rfl (by kernel_rfl) (fun _ _ _ h => h) (Or.inr ⟨by rfl, rfl⟩) ?_ ?_
  rotate_left
  ·exact Z0
  refine pure_ (i := 8) (N := some 46) (v := undef) (a' := ?_) (bl 19 511) rfl rfl (by kernel_rfl) (fun _ _ _ h => h) (Or.inr ⟨by rfl, rfl⟩) ?_ ?_
  rotate_left
  ·exact Z0
  refine pure_ (i := 9) (N := some 47) (v := undef) (a' := ?_) (bl 19 1023) rfl rfl (by kernel_rfl) (fun _ _ _ h => h) (Or.inr ⟨by rfl, rfl⟩) ?_ ?_
  rotate_left
  ·exact Z0
  refine pure_ (i := 10) (N := some 48) (v := undef) (a' := ?_) (bl 19 2047) rfl rfl (by kernel_rfl) (fun _ _ _ h => h) (Or.inr ⟨by rfl, rfl⟩) ?_ ?_
  rotate_left
  ·exact Z0
  refine pure_ (i := 11) (N := some 49) (v := undef) (a' := ?_) (bl 19 4095) rfl rfl (by kernel_rfl) (fun _ _ _ h => h) (Or.inr ⟨by rfl, rfl⟩) ?_ ?_
  rotate_left
  ·exact Z0
  refine pure_ (i := 12) (N := some 50) (v := undef) (a' := ?_) (bl 19 8191) rfl rfl (by kernel_rfl) (fun _ _ _ h => h) (Or.inr ⟨by rfl, rfl⟩) ?_ ?_
  rotate_left
  ·exact Z0
  refine pure_ (i := 13) (N := some 51) (v := undef) (a' := ?_) (bl 19 16383) rfl rfl (by kernel_rfl) (fun _ _ _ h => h) (Or.inr ⟨by rfl, rfl⟩) ?_ ?_
  rotate_left
  ·exact Z0
  refine pure_ (i := 14) (N := some 52) (v := undef) (a' := ?_) (bl 19 32767) rfl rfl (by kernel_rfl) (fun _ _ _ h => h) (Or.inr ⟨by rfl, rfl⟩) ?_ ?_
  rotate_left
  ·exact Z0
  refine pure_ (i := 15) (N := some 53) (v := ?_) (a' := ?_) (bl 19 65535) rfl rfl (by kernel_rfl) (fun _ _ _ h => h) (Or.inl ⟨by rfl, ?_⟩) ?_ ?_
  rotate_left
  ·exact Z4
  rotate_left
  ·exact Z0
  refine pure_ (i := 16) (N := some 54) (v := ?_) (a' := ?_) (bl 19 131071) rfl rfl (by kernel_rfl) (fun _ _ _ h => h) (Or.inl ⟨by rfl, ?_⟩) ?_ ?_
  rotate_left
  ·exact Z4
  rotate_left
  ·exact Z0
  refine pure_ (i := 17) (N := some 55) (v := ?_) (a' := ?_) (bl 19 262143) rfl rfl (by kernel_rfl) (fun _ _ _ h => h) (Or.inl ⟨by rfl, ?_⟩) ?_ ?_
  rotate_left
  ·exact Z4
  rotate_left
  ·exact Z0
  refine one_ (i := 18) (N := none) (bl 19 524287) rfl rfl (by kernel_rfl) (by decide) (fun K hK => ?_)
  refine skip_ (w1 := ?_) (by rfl) rfl ?_ ?_
  rotate_left
  ·go_simp
   rfl
  refine hK.out _ _ trivial (fun hHeld => ?_)
  clear hK K
  refine done_ (by kernel_rfl) ?_
  go_wp2
  go_end0
  have e5 : isOpen kind ((lastSec st.secs).f0 ++ [⟨kind, text⟩]) = false := by unfold isOpen; rw [HK2.out]; rfl
  rw [e5]
  exact ⟨rfl, ⟨_, _, ⟨blk_set HR4.out.blk 5 (.bool false), Kd.S_set HR4.out.hS HR4.out.blk (by decide) 5 (.bool false), Kd.R_set HR4.out.hF HR4.out.blk (by decide) 5 (.bool false)⟩⟩, below_drew (HB4.out.setCell (p := ⟨R, 5, none⟩) (Nat.le_refl R) _)⟩
end Go.Proofs.YtmbhjogohfcjgaaDoor.P
