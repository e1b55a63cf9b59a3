/- The state of pattern.reader, and the walks of its section and begin. -/
import Derived.Test.YtmbhjogohfcjgaaDoorPs2
import Derived.StillTailTactics
import Derived.Deep.RegionLaw
namespace Go.Proofs.YtmbhjogohfcjgaaDoor.P
open Go.RowKit Go.Proofs.YtmbhjogohfcjgaaDoorW.PrintWords Go.Proofs.YtmbhjogohfcjgaaDoorW.PrintLast Go.Proofs.YtmbhjogohfcjgaaDoorW.PrintMore
set_option linter.unusedVariables false
set_option linter.unusedSimpArgs false
def bl (n s : Nat) : Array Bool := ((List.range n).map fun i => s.testBit i).toArray
theorem sA_ {α : Type} {l : List α} {i : Nat} {a : α} : l.toArray.setIfInBounds i a = (l.set i a).toArray := List.setIfInBounds_toArray ..
theorem s0_ {α : Type} {x a : α} {l : List α} : (x :: l).set 0 a = a :: l := rfl
theorem s1_ {α : Type} {x a : α} {l : List α} {n : Nat} : (x :: l).set (n + 1) a = x :: l.set n a := rfl
structure RS where
 s : ByteArray
 at_ : Nat
 secs : List S62
 from_ : List Int
 items : Nat
 open_ : Bool
structure Rd (R : Nat) (w : World) (st : RS) (vS vF : Value) : Prop where
 blk : w.heap[R]? = some (.cells #[.string st.s, .int .i64 st.at_, vS, vF, .int .i64 st.items, .bool st.open_] 107 (0, 0))
 hS : Kd.S k62 62 w (R + 1) (fun _ => True) vS st.secs
 hF : Kd.R (Kd.int .i64) 3 w (R + 1) (fun _ => True) vF st.from_
theorem Rd.drewN {R : Nat} {w : World} {st : RS} {vS vF : Value} (h : Rd R w st vS vF) (m : Nat) : Rd R (w.drewN m) st vS vF := ⟨h.blk, Kd.S_drewN h.hS m, Kd.R_below h.hF (pw_below_drewN (Below.refl _ _) m)⟩
theorem Rd.below {R : Nat} {w w1 : World} {st : RS} {vS vF : Value} (h : Rd R w st vS vF) (hb : Below w.heap.size w w1) : Rd R w1 st vS vF := ⟨blk_below h.blk hb, Kd.S_below h.hS hb, Kd.R_below h.hF hb⟩
set_option maxHeartbeats 1000000 in
theorem section_walk (R : Nat) (st : RS) (g cap : Nat) (vF : Value) (w : World) (hn : 0 < st.secs.length) (hn4 : st.secs.length ≤ 4) (h : Rd R w st (.slice (some ⟨g, 0, none⟩) st.secs.length cap) vF) :
  Calls Tryd.prog 120 #[.pointer (some ⟨R, 0, none⟩)] w fun e w' => e = .returned (.pointer (some ⟨g, (st.secs.length - 1) * 3, none⟩)) ∧ ∃ k, w' = w.drewN k := by
 have hc : w.cell? ⟨R, 2, none⟩ = some (.slice (some ⟨g, 0, none⟩) st.secs.length cap) := (blk_cell h.blk 2).trans rfl
 clear h
 generalize st.secs.length = n at *
 go_enter Tryd.func120, Tryd.ntmps120
 go_wp2
 go_quiet (fail)
 go_wp2
 go_ret
 exact ⟨rfl, _, rfl⟩
def fault (err at_ : Int) : Ending := .panicked [{ v := .iface 109 (.agg #[.int .i64 err, .int .i64 at_]), recovered := false }]
set_option maxHeartbeats 1000000 in
theorem begin_panic (R : Nat) (st : RS) (vS vF : Value) (w : World) (h4 : st.secs.length = 4) (ha : 1 ≤ st.at_) (ha2 : st.at_ ≤ 2000) (h : Rd R w st vS vF) :
  Calls Tryd.prog 67 #[.pointer (some ⟨R, 0, none⟩)] w fun e w' => e = fault 5 ((st.at_ : Int) - 1) ∧ w = w' := by
 obtain ⟨g, cap, rfl, _⟩ := Kd.S_form h.hS (by omega)
 have hc : w.cell? ⟨R, 2, none⟩ = some (.slice (some ⟨g, 0, none⟩) st.secs.length cap) := (blk_cell h.blk 2).trans rfl
 have ha : w.cell? ⟨R, 1, none⟩ = some (.int .i64 st.at_) := (blk_cell h.blk 1).trans rfl
 rw [h4] at hc
 clear h
 have hpn : ∀ (t : TypeId) (v : Value) (w : World), (Instr.panic (.iface t v)).run Tryd.prog w = .halt (.panic (.iface t v)) w := fun _ _ _ => rfl
 go_enter Tryd.func67, Tryd.ntmps67
 go_wp2
 exact ⟨rfl, rfl, rfl⟩
theorem infoSec : (Tryd.prog.info? 62).map (fun i => (i.zero, i.size, i.bytes)) = some (some (.agg #[.slice none 0 0, .bool false, .int .i64 0]), 3, 40) := by kernel_rfl
theorem infoInt : (Tryd.prog.info? 3).map (fun i => (i.zero, i.size, i.bytes)) = some (some (.int .i64 0), 1, 8) := by kernel_rfl
theorem frz_alloc {w : World} {R i : Nat} (o : Obj) (hlt : R < w.heap.size) (h : w.frozen? ⟨R, i, none⟩ = false) : (w.alloc o).frozen? ⟨R, i, none⟩ = false :=
 (((Below.refl w.heap.size w).alloc (Nat.le_refl _) o).frozen (p := ⟨R, i, none⟩) hlt).trans h
theorem cel_alloc {w : World} {a : Addr} {v : Value} (o : Obj) (h : w.cell? a = some v) : (w.alloc o).cell? a = some v := by
 rw [World.cell?_alloc_lt _ _ _ (World.block_lt_of_cell? w a h)]; exact h
set_option maxRecDepth 100000 in
set_option maxHeartbeats 4000000 in
theorem begin_ok (R : Nat) (st : RS) (vS vF : Value) (w : World) (h4 : st.secs.length < 4) (hfl : st.from_.length < 4) (h : Rd R w st vS vF) :
  Calls Tryd.prog 67 #[.pointer (some ⟨R, 0, none⟩)] w fun e w' => e = .returned (.tuple #[]) ∧ (∃ vS' vF', Rd R w' { st with secs := st.secs ++ [z62], from_ := st.from_ ++ [(st.at_ : Int)], open_ := false } vS' vF') ∧ Below R w w' := by
 obtain ⟨A, c, rfl⟩ := Kd.S_slice h.hS
 have hblk := h.blk
 have hRlt := blk_lt hblk
 have HH := Aside0.mk h
 have HBLK := Aside0.mk hblk
 have hc2 : w.cell? ⟨R, 2, none⟩ = some (.slice A st.secs.length c) := (blk_cell hblk 2).trans rfl
 clear h hblk
 generalize hnn : st.secs.length = n at *
 have HNN := Aside0.mk hnn
 clear hnn
 go_enter Tryd.func67, Tryd.ntmps67
 go_wp2_with (((with_reducible refine gate_dst (N := 24) rfl ?_); refine Kd.S_append k62 (w0 := w) (R + 1) rfl (.tmp 21) (.tmp 23) 53 62 (.agg #[.slice none 0 0, .bool false, .int .i64 0]) 40 rfl Tryd.underlying53 infoSec rfl (by decide) (by omega) (.slice A n c) st.secs z62 [.slice none 0 0, .bool false, .int .i64 0] (fun _ => True) (fun _ => False) rfl rfl (k62_mkM _ _ _ z62 (Kd.R_nil _ _ _ _ _)) (fun _ hk => hk.elim) (fun _ _ => trivial) (Kd.S_mono HH.out.hS (fun _ _ => ⟨trivial, fun hk => hk⟩)) (Below.refl _ _) hRlt (by rw [HNN.out]; omega) ?_; intro v1 w1 hS1 hb1 hg1 hat1; obtain ⟨g1, cap1, hv1, hg1b, hg1l, _⟩ := Kd.S_form hS1 (by simp); obtain ⟨n1, hn1⟩ : ∃ n1, (st.secs ++ [z62]).length = n1 := ⟨_, rfl⟩; rw [hn1] at hv1; subst hv1; clear hn1; have HS1 := Aside0.mk hS1; have HBa := Aside0.mk hb1; have HBLK1 := Aside0.mk (blk_grown HBLK.out hg1 (Kd.S_ne HH.out.hS HBLK.out (by decide))); have HF1 := Aside0.mk (Kd.R_over' HH.out.hF (Kd.S_typed HH.out.hS) (by decide) hg1); clear hS1 hb1 hg1 hat1; have hc1 : w1.cell? ⟨R, 2, none⟩ = some (.slice A n c) := (blk_cell HBLK1.out 2).trans rfl; have hf1 := blk_frozen HBLK1.out 2))
 have HBLK2 := Aside0.mk (blk_set HBLK1.out 2 (.slice (some ⟨g1, 0, none⟩) n1 cap1))
 have HS2 := Aside0.mk (Kd.S_set HS1.out HBLK1.out (by decide) 2 (.slice (some ⟨g1, 0, none⟩) n1 cap1))
 have HF2 := Aside0.mk (Kd.R_set HF1.out HBLK1.out (by decide) 2 (.slice (some ⟨g1, 0, none⟩) n1 cap1))
 have HBb := Aside0.mk ((HBa.out.mono (Nat.le_succ R)).setCell (p := ⟨R, 2, none⟩) (Nat.le_refl R) (.slice (some ⟨g1, 0, none⟩) n1 cap1))
 have HBLK2' := HBLK2.out
 replace HBLK2' := HBLK2'.trans (show _ = some (Obj.cells #[.string st.s, .int .i64 st.at_, .slice (some ⟨g1, 0, none⟩) n1 cap1, vF, .int .i64 st.items, .bool st.open_] 107 (0, 0)) from rfl)
 clear HBLK1 HS1 HF1 HBa hc1 hf1 HBLK2
 have HBLK2 := Aside0.mk HBLK2'
 clear HBLK2'
 generalize w1.setCell ⟨R, 2, none⟩ (.slice (some ⟨g1, 0, none⟩) n1 cap1) = W2 at *
 obtain ⟨AF, cF, rfl⟩ := Kd.R_slice HF2.out
 have hfl1 : st.from_.length + 1 ≤ 4 := by omega
 generalize hnf : st.from_.length = nf at *
 have HNF := Aside0.mk hnf
 clear hnf
 have hR2 := blk_lt HBLK2.out
 have hd1 : W2.cell? ⟨R, 1, none⟩ = some (.int .i64 st.at_) := (blk_cell HBLK2.out 1).trans rfl
 have hd3 : W2.cell? ⟨R, 3, none⟩ = some (.slice AF nf cF) := (blk_cell HBLK2.out 3).trans rfl
 have hz3 : W2.frozen? ⟨R, 3, none⟩ = false := blk_frozen HBLK2.out 3
 go_region_law
  ((refine Kd.R_append_step (W := W2.drew) (Kd.int .i64) (w0 := W2) (R + 1) (by rfl) (.tmp 32) (.tmp 37) 23 3 (.int .i64 0) 8 (by rfl) Tryd.underlying23 infoInt rfl (by decide) (by omega) (.slice AF nf cF) st.from_ (st.at_ : Int) [.int .i64 st.at_] (fun _ => True) (fun _ => False) (by rfl) (by rfl) rfl (fun _ hk => hk.elim) (fun _ _ => trivial) (Kd.R_below HF2.out (below_drew (Below.refl _ _))) (below_drew (Below.refl _ _)) hR2 (by rw [HNF.out]; omega) ?_; intro v2 w3 hF3 hb3 hg3 hat3; obtain ⟨g2, cap2, hv2, hg2b, hg2l, _⟩ := Kd.R_form hF3 (by simp); obtain ⟨n2, hn2⟩ : ∃ n2, (st.from_ ++ [(st.at_ : Int)]).length = n2 := ⟨_, rfl⟩; rw [hn2] at hv2; subst hv2; clear hn2; have HBLK3 := Aside0.mk (blk_grown (w := W2.drew) HBLK2.out hg3 (Kd.R_ne HF2.out HBLK2.out (by decide))); have HS3 := Aside0.mk (Kd.S_over' (W := W2.drew) (Kd.S_drew HS2.out) (Kd.R_typed HF2.out) (by decide) hg3); clear hd1 hd3 hz3; have e31 : w3.cell? ⟨R, 1, none⟩ = some (.int .i64 st.at_) := (blk_cell HBLK3.out 1).trans rfl; have e33 : w3.cell? ⟨R, 3, none⟩ = some (.slice AF nf cF) := (blk_cell HBLK3.out 3).trans rfl; have f33 := blk_frozen HBLK3.out 3; have e35 : w3.cell? ⟨R, 5, none⟩ = some (.bool st.open_) := (blk_cell HBLK3.out 5).trans rfl; have f35 := blk_frozen HBLK3.out 5))
 all_goals
  have HF3 := Aside0.mk hF3
  have HB3 := Aside0.mk (HBb.out.trans ((Below.mono hb3 (Nat.le_succ R))))
  clear hF3 hb3 hg3 hat3 hg2b hg2l
  go_wp2
  go_end0
  have b4 := blk_set (blk_set HBLK3.out 3 (.slice (some ⟨g2, 0, none⟩) n2 cap2)) 5 (.bool false)
  have s4 := Kd.S_set (Kd.S_set HS3.out HBLK3.out (by decide) 3 (.slice (some ⟨g2, 0, none⟩) n2 cap2)) (blk_set HBLK3.out 3 (.slice (some ⟨g2, 0, none⟩) n2 cap2)) (by decide) 5 (.bool false)
  have r4 := Kd.R_set (Kd.R_set HF3.out HBLK3.out (by decide) 3 (.slice (some ⟨g2, 0, none⟩) n2 cap2)) (blk_set HBLK3.out 3 (.slice (some ⟨g2, 0, none⟩) n2 cap2)) (by decide) 5 (.bool false)
  exact ⟨rfl, ⟨_, _, ⟨b4, s4, r4⟩⟩, (HB3.out.setCell (p := ⟨R, 3, none⟩) (Nat.le_refl R) _).setCell (p := ⟨R, 5, none⟩) (Nat.le_refl R) _⟩
end Go.Proofs.YtmbhjogohfcjgaaDoor.P
