/- The deferred closure of Parse: it recovers a fault. -/
import Derived.Test.YtmbhjogohfcjgaaDoorPq9
import Derived.Defers
import Derived.Recover
namespace Go.Proofs.YtmbhjogohfcjgaaDoor.P
open Go.RowKit Go.Proofs.YtmbhjogohfcjgaaDoorW.PrintWords Go.Proofs.YtmbhjogohfcjgaaDoorW.PrintLast Go.Proofs.YtmbhjogohfcjgaaDoorW.PrintMore
set_option linter.unusedVariables false
set_option linter.unusedSimpArgs false
theorem ta_nil (w : World) : (Instr.typeAssert .nilIface 20 109 true).run Tryd.prog w = .ok (.tuple #[.agg #[.int .i64 0, .int .i64 0], .bool false]) w := by kernel_rfl
theorem ta_some (e a : Int) (w : World) : (Instr.typeAssert (.iface 109 (.agg #[.int .i64 e, .int .i64 a])) 20 109 true).run Tryd.prog w = .ok (.tuple #[.agg #[.int .i64 e, .int .i64 a], .bool true]) w := by kernel_rfl
theorem rep13 : Array.replicate 13 undef = #[undef, undef, undef, undef, undef, undef, undef, undef, undef, undef, undef, undef, undef] := rfl
set_option maxRecDepth 100000 in
set_option maxHeartbeats 2000000 in
theorem catch_idle (p q r : Addr) (w : World) :
  CallsD Tryd.prog 66 #[.pointer (some p), .pointer (some q), .pointer (some r)] .returning w fun e u' w' => e = .returned (.tuple #[]) ∧ u' = .returning ∧ Below w.heap.size w w' := by
 refine callsD_of_wpS Tryd.func66 rfl fun c₀ cs hu => ?_
 apply wpS_seq
 apply wpS_region
 simp [wpOpsS, go_sem, recoverD, hu, Tryd.ntmps66, Exit.thenS, ta_nil, rep13, List.setIfInBounds_toArray, List.set_cons_zero, List.set_cons_succ]
 refine wpS_of_wp ?_
 go_wp2
 cases c₀
 simp_all [bodyPostS, results, Tryd.results66]
 exact (Below.refl _ _).alloc (Nat.le_refl _) _
theorem set_oth {w : World} {a b : Addr} {v : Value} (h : a.block ≠ b.block) : (w.setCell a v).cell? b = w.cell? b := World.cell?_setCell_other _ _ _ _ (fun e => h (by rw [e]))
theorem set_same {w : World} {a : Addr} {u v : Value} (h : w.cell? a = some u) : (w.setCell a v).cell? a = some v := World.cell?_setCell_same _ _ _ h
set_option maxRecDepth 100000 in
set_option maxHeartbeats 4000000 in
theorem catch_panicking (B B1 B2 : Nat) (er at_ : Int) (older : List PanicEntry) (v0 v1 v2 : Value) (w : World) (n0 : B < w.heap.size) (n1 : B1 < w.heap.size) (n2 : B2 < w.heap.size) (n01 : B < B1) (n12 : B1 < B2)
  (h0 : w.heap[B]? = some (.cells #[v0] 55 (0, 0))) (h1 : w.heap[B1]? = some (.cells #[v1] 41 (0, 0))) (h2 : w.heap[B2]? = some (.cells #[v2] 3 (0, 0))) :
  CallsD Tryd.prog 66 #[.pointer (some ⟨B, 0, none⟩), .pointer (some ⟨B1, 0, none⟩), .pointer (some ⟨B2, 0, none⟩)] (.panicking ({ v := .iface 109 (.agg #[.int .i64 er, .int .i64 at_]), recovered := false } :: older)) w fun e u' w' =>
   e = .returned (.tuple #[]) ∧ u' = .panicking ({ v := .iface 109 (.agg #[.int .i64 er, .int .i64 at_]), recovered := true } :: older) ∧
   w'.cell? ⟨B, 0, none⟩ = some (.slice none 0 0) ∧ w'.cell? ⟨B1, 0, none⟩ = some (.int .i64 er) ∧ w'.cell? ⟨B2, 0, none⟩ = some (.int .i64 at_) ∧ Below B w w' := by
 refine callsD_of_wpS Tryd.func66 rfl fun c₀ cs hu => ?_
 apply wpS_seq
 apply wpS_region
 simp [wpOpsS, go_sem, recoverD, hu, Tryd.ntmps66, Exit.thenS, ta_some, rep13, List.setIfInBounds_toArray, List.set_cons_zero, List.set_cons_succ]
 refine wpS_of_wp ?_
 have hb := (Below.refl w.heap.size w).alloc (Nat.le_refl _) (.cells #[.int .i64 er, .int .i64 at_] 109 (0, 0))
 have a0 := blk_cell (blk_below h0 hb) 0
 have a1 := blk_cell (blk_below h1 hb) 0
 have a2 := blk_cell (blk_below h2 hb) 0
 have z0 := blk_frozen (blk_below h0 hb) 0
 have z1 := blk_frozen (blk_below h1 hb) 0
 have z2 := blk_frozen (blk_below h2 hb) 0
 have b3 : (w.alloc (.cells #[.int .i64 er, .int .i64 at_] 109 (0, 0))).heap[w.heap.size]? = some (.cells #[.int .i64 er, .int .i64 at_] 109 (0, 0)) := Array.getElem?_push_size
 have HB := Aside0.mk (hb.mono (Nat.le_of_lt n0))
 have f0 := (blk_cell b3 0).trans (show _ = some (Value.int .i64 er) from rfl)
 have f1 := (blk_cell b3 1).trans (show _ = some (Value.int .i64 at_) from rfl)
 clear h0 h1 h2 b3 hb
 generalize w.heap.size = F at *
 generalize w.alloc (.cells #[.int .i64 er, .int .i64 at_] 109 (0, 0)) = W at *
 have m01 : ¬ B = B1 := by omega
 have m02 : ¬ B = B2 := by omega
 have m12 : ¬ B1 = B2 := by omega
 have m10 : ¬ B1 = B := by omega
 have m20 : ¬ B2 = B := by omega
 have m21 : ¬ B2 = B1 := by omega
 go_wp2
 refine start_ (n := 8) (S := fun w' => w'.cell? ⟨F, 0, none⟩ = some (.int .i64 er) ∧ w'.cell? ⟨F, 1, none⟩ = some (.int .i64 at_)) (ds := []) (bl 8 0) (by kernel_rfl) rfl (by kernel_rfl) ⟨f0, f1⟩ (fun hHeld => ?_)
 refine pure_ (i := 0) (N := some 11) (v := ?_) (a' := ?_) (bl 8 1) rfl rfl (by kernel_rfl) (fun _ _ _ h => h) (Or.inl ⟨by rfl, ?_⟩) ?_ ?_
 rotate_left
 ·exact Z4
 rotate_left
 ·exact Z0
 refine pure_ (i := 1) (N := some 12) (v := ?_) (a' := ?_) (bl 8 3) rfl rfl (by kernel_rfl) (fun _ _ _ h => h) (Or.inl ⟨by rfl, ?_⟩) ?_ ?_
 rotate_left
 ·exact Z4
 rotate_left
 ·exact Z0
 refine pure_ (i := 3) (N := some 14) (v := ?_) (a' := ?_) (bl 8 11) rfl rfl (by kernel_rfl) (fun _ _ _ h => h) (Or.inl ⟨by rfl, ?_⟩) ?_ ?_
 rotate_left
 ·exact Z4
 rotate_left
 ·exact Z0
 refine take_ (i := 2) (N := some 13) (v := ?_) (a' := ?_) (bl 8 15) rfl rfl (by kernel_rfl) (fun _ _ _ h => h) (Or.inl ⟨by rfl, ?_⟩) hHeld ?_ ?_
 rotate_left
 ·exact Z8
 rotate_left
 ·exact Z0
 refine take_ (i := 4) (N := some 15) (v := ?_) (a' := ?_) (bl 8 31) rfl rfl (by kernel_rfl) (fun _ _ _ h => h) (Or.inl ⟨by rfl, ?_⟩) hHeld ?_ ?_
 rotate_left
 ·exact Z8
 rotate_left
 ·exact Z0
 refine one_ (i := 5) (N := none) (bl 8 63) rfl rfl (by kernel_rfl) (by decide) (fun K hK => ?_)
 refine skip_ (w1 := ?_) (by rfl) rfl ?_ ?_
 rotate_left
 ·go_simp
  rfl
 refine hK.out _ _ ⟨(set_oth (by show B ≠ F; omega)).trans hHeld.1, (set_oth (by show B ≠ F; omega)).trans hHeld.2⟩ (fun hHeld => ?_)
 clear hK K
 refine one_ (i := 6) (N := none) (bl 8 127) rfl rfl (by kernel_rfl) (by decide) (fun K hK => ?_)
 refine skip_ (w1 := ?_) (by rfl) rfl ?_ ?_
 rotate_left
 ·go_simp
  rfl
 refine hK.out _ _ ⟨(set_oth (by show B1 ≠ F; omega)).trans hHeld.1, (set_oth (by show B1 ≠ F; omega)).trans hHeld.2⟩ (fun hHeld => ?_)
 clear hK K
 refine one_ (i := 7) (N := none) (bl 8 255) rfl rfl (by kernel_rfl) (by decide) (fun K hK => ?_)
 refine skip_ (w1 := ?_) (by rfl) rfl ?_ ?_
 rotate_left
 ·go_simp
  rfl
 refine hK.out _ _ ⟨(set_oth (by show B2 ≠ F; omega)).trans hHeld.1, (set_oth (by show B2 ≠ F; omega)).trans hHeld.2⟩ (fun hHeld => ?_)
 clear hK K
 refine done_ (by kernel_rfl) ?_
 clear hHeld
 exact ⟨rfl, _, rfl, _, results_none rfl _ _ _, rfl, rfl,
  (set_oth (show B2 ≠ B by omega)).trans ((set_oth (show B1 ≠ B by omega)).trans (set_same a0)),
  (set_oth (show B2 ≠ B1 by omega)).trans (set_same ((set_oth (show B ≠ B1 by omega)).trans a1)),
  set_same ((set_oth (show B1 ≠ B2 by omega)).trans ((set_oth (show B ≠ B2 by omega)).trans a2)),
  below_drew (((HB.out.setCell (p := ⟨B, 0, none⟩) (Nat.le_refl B) _).setCell (p := ⟨B1, 0, none⟩) (show B ≤ B1 by omega) _).setCell (p := ⟨B2, 0, none⟩) (show B ≤ B2 by omega) _)⟩
end Go.Proofs.YtmbhjogohfcjgaaDoor.P
