/- The walk of PatternJoins where both texts are patterns of one section (written by wip/tools/genjoins.py). -/
import Derived.Test.YtmbhjogohfcjgaaDoorPj3
import Derived.Test.YtmbhjogohfcjgaaDoorPj0
namespace Go.Proofs.YtmbhjogohfcjgaaDoor.P
open Go.RowKit Go.Proofs.YtmbhjogohfcjgaaDoorW.PrintWords Go.Proofs.YtmbhjogohfcjgaaDoorW.PrintLast Go.Proofs.YtmbhjogohfcjgaaDoorW.PrintMore
set_option linter.unusedVariables false
set_option linter.unusedSimpArgs false

def joins.T11 : Bool × List (List Nat × List Nat) := (true, [([], []), ([], []), ([1], [1]), ([], []), ([3, 2], [3]), ([2, 4, 4], [2, 4]), ([0, 5, 5], [0, 5]), ([6, 6, 0, 1, 2, 3, 4, 5, 6], [6])])
def joins.B11 : List Nat := [0, 0, 2, 0, 14, 30, 63, 127]
theorem joins.tab11 : rtab .any (opsOf Tryd.f9 11) = joins.T11 := by kernel_rfl
theorem joins.bits11 : waitsOk joins.T11.2 joins.B11 = true := by kernel_rfl
set_option maxRecDepth 100000 in
set_option maxHeartbeats 8000000 in
theorem joins_many (s t : ByteArray) (a b : S62) (pa pb : Int) (W : World) (hGL : GL W) (hs : ¬ 490 < s.size) (ht : ¬ 490 < t.size) (hpa : pattern_Parse.f s = some ([a], 0, pa)) (hpb : pattern_Parse.f t = some ([b], 0, pb)) (hla : a.f0.length ≤ 1000000) (hlb : b.f0.length ≤ 1000000) (h : 100 < a.f0.length + b.f0.length) : Calls Tryd.prog 9 #[.string s, .string t] W (JoinsEnd W) := by
  have HG := Aside0.mk hGL
  have HB0 := Aside0.mk (Below.refl W.heap.size W)
  have HPa := Aside0.mk hpa
  have HPb := Aside0.mk hpb
  have hs1 : decide (490 < (s.size : Int)) = false := decide_eq_false (by omega)
  have ht1 : decide (490 < (t.size : Int)) = false := decide_eq_false (by omega)
  have HLA := Aside0.mk hla
  have HLB := Aside0.mk hlb
  clear hGL hpa hpb hs ht
  go_enter Tryd.func9, Tryd.ntmps9
  go_wp2_with (fail)
  (with_reducible refine (tabardlaw13_shown.calls true _ (HG.out.below HB0.out) rfl).mono ?_)
  rintro e w1 ⟨rfl, hb⟩
  have HB1 := Aside0.mk (HB0.out.trans (hb.mono HB0.out.size))
  clear hb
  go_wp2_with (fail)
  (with_reducible refine (pattern_Parse.calls s [a] 0 pa _ (HG.out.below HB1.out) HPa.out).mono ?_)
  rintro e wa ⟨va, rfl, hSa, hb⟩
  obtain ⟨Aa, ca, rfl, hca, hCa⟩ := Kd.S_reads hSa
  rw [show [a].length = 1 from rfl] at hca hCa ⊢
  have HBa := Aside0.mk (below_alloc (HB1.out.trans (hb.mono HB1.out.size)) (.cells #[.slice Aa 1 ca] 55 (0, 0)))
  have HCa := Aside0.mk (Kd.C_below hCa (below_alloc (Below.refl wa.heap.size wa) (.cells #[.slice Aa 1 ca] 55 (0, 0))))
  clear hSa hb hCa
  go_wp2_with (fail)
  (with_reducible refine (pattern_Parse.calls t [b] 0 pb _ (HG.out.below HBa.out) HPb.out).mono ?_)
  rintro e wb ⟨vb, rfl, hSb, hb⟩
  obtain ⟨Ab, cb, rfl, hcb, hCb⟩ := Kd.S_reads hSb
  rw [show [b].length = 1 from rfl] at hcb hCb ⊢
  have HBb := Aside0.mk (below_alloc (HBa.out.trans (hb.mono HBa.out.size)) (.cells #[.slice Ab 1 cb] 55 (0, 0)))
  have e1 : wb.heap[wa.heap.size]? = some (.cells #[.slice Aa 1 ca] 55 (0, 0)) := (hb.block wa.heap.size (by rw [show (wa.alloc (.cells #[.slice Aa 1 ca] 55 (0, 0))).heap.size = wa.heap.size + 1 from Array.size_push _]; omega)).trans Array.getElem?_push_size
  have c1 : (wb.alloc (.cells #[.slice Ab 1 cb] 55 (0, 0))).cell? ⟨wa.heap.size, 0, none⟩ = some (.slice Aa 1 ca) := cel_alloc _ (blk_cell e1 0)
  have c2 : (wb.alloc (.cells #[.slice Ab 1 cb] 55 (0, 0))).cell? ⟨wb.heap.size, 0, none⟩ = some (.slice Ab 1 cb) := (blk_cell (heap_alloc_new wb (.cells #[.slice Ab 1 cb] 55 (0, 0))) 0).trans rfl
  have hCa2 := Kd.C_below HCa.out (below_alloc hb (.cells #[.slice Ab 1 cb] 55 (0, 0)))
  have hCb2 := Kd.C_below hCb (below_alloc (Below.refl wb.heap.size wb) (.cells #[.slice Ab 1 cb] 55 (0, 0)))
  obtain ⟨ada, Aa0, ca0, rfl, xa0, xa1, xa2, ia0, ga0⟩ := at_T62 hCa2 0 (by omega) (by omega)
  obtain ⟨adb, Ab0, cb0, rfl, xb0, xb1, xb2, ib0, gb0⟩ := at_T62 hCb2 0 (by omega) (by omega)
  have hz : ∀ ad : Addr, ad.add ((0 : Int).toNat * 3) = ad := fun ad => by simp [Addr.add]
  rw [hz] at xa0 xa1 xa2 xb0 xb1 xb2
  rw [show rd_T62 [a] 0 = a from rfl] at xa0 xa1 xa2 ia0 ga0
  rw [show rd_T62 [b] 0 = b from rfl] at xb0 xb1 xb2 ib0 gb0
  clear hSb hb hCb e1 HCa hz
  go_upto_region 6 with (fail)
  generalize wb.alloc (.cells #[.slice (some adb) 1 cb] 55 (0, 0)) = W2 at *
  have HCA := Aside0.mk hCa2
  have HCB := Aside0.mk hCb2
  have HSa := Aside0.mk (fun w (hW : Below W2.heap.size W2 w) => pattern_Shape.calls Aa0 ca0 a.f0 a.f1 a.f2 (shapeOf a.f0 a.f1 a.f2) w (HG.out.below (HBb.out.trans (hW.mono HBb.out.size))) (Kd.C_below ga0 hW) ia0 (by unfold pattern_Shape.f; rw [if_pos HLA.out]))
  have HSb := Aside0.mk (fun w (hW : Below W2.heap.size W2 w) => pattern_Shape.calls Ab0 cb0 b.f0 b.f1 b.f2 (shapeOf b.f0 b.f1 b.f2) w (HG.out.below (HBb.out.trans (hW.mono HBb.out.size))) (Kd.C_below gb0 hW) ib0 (by unfold pattern_Shape.f; rw [if_pos HLB.out]))
  have hla2 : a.f0.length ≤ 1000000 := HLA.out
  have hlb2 : b.f0.length ≤ 1000000 := HLB.out
  have i01 : (0 : Int) < 1 := by decide
  clear hCa2 hCb2 ga0 gb0 hla hlb
  generalize a.f0.length = na at *
  generalize b.f0.length = nb at *
  generalize hka : shapeOf a.f0 a.f1 a.f2 = ka at *
  generalize hkb : shapeOf b.f0 b.f1 b.f2 = kb at *
  have HKA := Aside0.mk hka
  have HKB := Aside0.mk hkb
  clear hka hkb
  have sw : wrap64 ((na : Int) + (nb : Int)) = (na : Int) + (nb : Int) := by unfold wrap64; omega
  have q1 : decide (100 < wrap64 ((na : Int) + (nb : Int))) = true := decide_eq_true (by rw [sw]; omega)
  have q2 : decide (100 < (na : Int) + (nb : Int)) = true := decide_eq_true (by omega)
  clear sw h
  go_wp2
  refine start_ (n := 30) (S := fun w' => w'.cell? ⟨wa.heap.size, 0, none⟩ = some (.slice (some ada) 1 ca) ∧ w'.cell? ⟨wb.heap.size, 0, none⟩ = some (.slice (some adb) 1 cb) ∧ w'.cell? ada = some (.slice Aa0 na ca0) ∧ w'.cell? ⟨ada.block, ada.off + 1, none⟩ = some (.bool a.f1) ∧ w'.cell? ⟨ada.block, ada.off + 2, none⟩ = some (.int .i64 a.f2) ∧ w'.cell? adb = some (.slice Ab0 nb cb0) ∧ w'.cell? ⟨adb.block, adb.off + 1, none⟩ = some (.bool b.f1) ∧ w'.cell? ⟨adb.block, adb.off + 2, none⟩ = some (.int .i64 b.f2)) (ds := []) (bl 30 0) (by kernel_rfl) rfl (by kernel_rfl) ⟨c1, c2, xa0, xa1, xa2, xb0, xb1, xb2⟩ (fun hHeld => ?_)
  refine pure_ (i := 0) (N := some 60) (v := ?_) (a' := ?_) (bl 30 1) rfl rfl (by kernel_rfl) (fun _ _ _ h => h) (Or.inl ⟨by rfl, ?_⟩) ?_ ?_
  rotate_left
  · intro w'
    go_simp
    with_reducible rfl
  rotate_left
  · simp only [Act.put, sA_, s0_, s1_, i64_w, i32_w]
    rfl
  refine pure_ (i := 6) (N := some 66) (v := ?_) (a' := ?_) (bl 30 65) rfl rfl (by kernel_rfl) (fun _ _ _ h => h) (Or.inl ⟨by rfl, ?_⟩) ?_ ?_
  rotate_left
  · intro w'
    go_simp
    with_reducible rfl
  rotate_left
  · simp only [Act.put, sA_, s0_, s1_, i64_w, i32_w]
    rfl
  refine take_ (i := 1) (N := some 61) (v := ?_) (a' := ?_) (bl 30 67) rfl rfl (by kernel_rfl) (fun _ _ _ h => h) (Or.inl ⟨by rfl, ?_⟩) hHeld ?_ ?_
  rotate_left
  · rintro w' ⟨s0, s1, s2, s3, s4, s5, s6, s7⟩
    go_simp
    with_reducible rfl
  rotate_left
  · simp only [Act.put, sA_, s0_, s1_, i64_w, i32_w]
    rfl
  refine pure_ (i := 2) (N := some 62) (v := ?_) (a' := ?_) (bl 30 71) rfl rfl (by kernel_rfl) (fun _ _ _ h => h) (Or.inl ⟨by rfl, ?_⟩) ?_ ?_
  rotate_left
  · intro w'
    go_simp
    with_reducible rfl
  rotate_left
  · simp only [Act.put, sA_, s0_, s1_, i64_w, i32_w]
    rfl
  refine pure_ (i := 3) (N := some 63) (v := ?_) (a' := ?_) (bl 30 79) rfl rfl (by kernel_rfl) (fun _ _ _ h => h) (Or.inl ⟨by rfl, ?_⟩) ?_ ?_
  rotate_left
  · intro w'
    go_simp
    with_reducible rfl
  rotate_left
  · simp only [Act.put, sA_, s0_, s1_, i64_w, i32_w]
    rfl
  refine take_ (i := 4) (N := some 64) (v := ?_) (a' := ?_) (bl 30 95) rfl rfl (by kernel_rfl) (fun _ _ _ h => h) (Or.inl ⟨by rfl, ?_⟩) hHeld ?_ ?_
  rotate_left
  · rintro w' ⟨s0, s1, s2, s3, s4, s5, s6, s7⟩
    go_simp
    with_reducible rfl
  rotate_left
  · simp only [Act.put, sA_, s0_, s1_, i64_w, i32_w]
    rfl
  refine pure_ (i := 5) (N := some 65) (v := ?_) (a' := ?_) (bl 30 127) rfl rfl (by kernel_rfl) (fun _ _ _ h => h) (Or.inl ⟨by rfl, ?_⟩) ?_ ?_
  rotate_left
  · intro w'
    go_simp
    with_reducible rfl
  rotate_left
  · simp only [Act.put, sA_, s0_, s1_, i64_w, i32_w]
    rfl
  refine take_ (i := 7) (N := some 67) (v := ?_) (a' := ?_) (bl 30 255) rfl rfl (by kernel_rfl) (fun _ _ _ h => h) (Or.inl ⟨by rfl, ?_⟩) hHeld ?_ ?_
  rotate_left
  · rintro w' ⟨s0, s1, s2, s3, s4, s5, s6, s7⟩
    go_simp
    with_reducible rfl
  rotate_left
  · simp only [Act.put, sA_, s0_, s1_, i64_w, i32_w]
    rfl
  refine pure_ (i := 8) (N := some 68) (v := ?_) (a' := ?_) (bl 30 511) rfl rfl (by kernel_rfl) (fun _ _ _ h => h) (Or.inl ⟨by rfl, ?_⟩) ?_ ?_
  rotate_left
  · intro w'
    go_simp
    with_reducible rfl
  rotate_left
  · simp only [Act.put, sA_, s0_, s1_, i64_w, i32_w]
    rfl
  refine pure_ (i := 9) (N := some 69) (v := ?_) (a' := ?_) (bl 30 1023) rfl rfl (by kernel_rfl) (fun _ _ _ h => h) (Or.inl ⟨by rfl, ?_⟩) ?_ ?_
  rotate_left
  · intro w'
    go_simp
    with_reducible rfl
  rotate_left
  · simp only [Act.put, sA_, s0_, s1_, i64_w, i32_w]
    rfl
  refine take_ (i := 10) (N := some 70) (v := ?_) (a' := ?_) (bl 30 2047) rfl rfl (by kernel_rfl) (fun _ _ _ h => h) (Or.inl ⟨by rfl, ?_⟩) hHeld ?_ ?_
  rotate_left
  · rintro w' ⟨s0, s1, s2, s3, s4, s5, s6, s7⟩
    go_simp
    with_reducible rfl
  rotate_left
  · simp only [Act.put, sA_, s0_, s1_, i64_w, i32_w]
    rfl
  refine pure_ (i := 11) (N := some 71) (v := ?_) (a' := ?_) (bl 30 4095) rfl rfl (by kernel_rfl) (fun _ _ _ h => h) (Or.inl ⟨by rfl, ?_⟩) ?_ ?_
  rotate_left
  · intro w'
    go_simp
    with_reducible rfl
  rotate_left
  · simp only [Act.put, sA_, s0_, s1_, i64_w, i32_w]
    rfl
  refine pure_ (i := 12) (N := some 72) (v := ?_) (a' := ?_) (bl 30 8191) rfl rfl (by kernel_rfl) (fun _ _ _ h => h) (Or.inl ⟨by rfl, ?_⟩) ?_ ?_
  rotate_left
  · intro w'
    go_simp
    with_reducible rfl
  rotate_left
  · simp only [Act.put, sA_, s0_, s1_, i64_w, i32_w]
    rfl
  refine pure_ (i := 13) (N := some 73) (v := ?_) (a' := ?_) (bl 30 16383) rfl rfl (by kernel_rfl) (fun _ _ _ h => h) (Or.inl ⟨by rfl, ?_⟩) ?_ ?_
  rotate_left
  · intro w'
    go_simp
    with_reducible rfl
  rotate_left
  · simp only [Act.put, sA_, s0_, s1_, i64_w, i32_w]
    rfl
  refine pure_ (i := 14) (N := some 74) (v := ?_) (a' := ?_) (bl 30 32767) rfl rfl (by kernel_rfl) (fun _ _ _ h => h) (Or.inl ⟨by rfl, ?_⟩) ?_ ?_
  rotate_left
  · intro w'
    go_simp
    with_reducible rfl
  rotate_left
  · simp only [Act.put, sA_, s0_, s1_, i64_w, i32_w]
    rfl
  refine pure_ (i := 15) (N := some 75) (v := undef) (a' := ?_) (bl 30 65535) rfl rfl (by kernel_rfl) (fun _ _ _ h => h) (Or.inr ⟨by rfl, rfl⟩) ?_ ?_
  rotate_left
  · simp only [Act.put, sA_, s0_, s1_, i64_w, i32_w]
    rfl
  refine pure_ (i := 16) (N := some 76) (v := undef) (a' := ?_) (bl 30 131071) rfl rfl (by kernel_rfl) (fun _ _ _ h => h) (Or.inr ⟨by rfl, rfl⟩) ?_ ?_
  rotate_left
  · simp only [Act.put, sA_, s0_, s1_, i64_w, i32_w]
    rfl
  refine pure_ (i := 17) (N := some 77) (v := undef) (a' := ?_) (bl 30 262143) rfl rfl (by kernel_rfl) (fun _ _ _ h => h) (Or.inr ⟨by rfl, rfl⟩) ?_ ?_
  rotate_left
  · simp only [Act.put, sA_, s0_, s1_, i64_w, i32_w]
    rfl
  refine pure_ (i := 18) (N := some 78) (v := undef) (a' := ?_) (bl 30 524287) rfl rfl (by kernel_rfl) (fun _ _ _ h => h) (Or.inr ⟨by rfl, rfl⟩) ?_ ?_
  rotate_left
  · simp only [Act.put, sA_, s0_, s1_, i64_w, i32_w]
    rfl
  refine pure_ (i := 19) (N := some 79) (v := undef) (a' := ?_) (bl 30 1048575) rfl rfl (by kernel_rfl) (fun _ _ _ h => h) (Or.inr ⟨by rfl, rfl⟩) ?_ ?_
  rotate_left
  · simp only [Act.put, sA_, s0_, s1_, i64_w, i32_w]
    rfl
  refine pure_ (i := 20) (N := some 80) (v := undef) (a' := ?_) (bl 30 2097151) rfl rfl (by kernel_rfl) (fun _ _ _ h => h) (Or.inr ⟨by rfl, rfl⟩) ?_ ?_
  rotate_left
  · simp only [Act.put, sA_, s0_, s1_, i64_w, i32_w]
    rfl
  refine pure_ (i := 21) (N := some 81) (v := ?_) (a' := ?_) (bl 30 4194303) rfl rfl (by kernel_rfl) (fun _ _ _ h => h) (Or.inl ⟨by rfl, ?_⟩) ?_ ?_
  rotate_left
  · intro w'
    go_simp
    with_reducible rfl
  rotate_left
  · simp only [Act.put, sA_, s0_, s1_, i64_w, i32_w]
    rfl
  refine pure_ (i := 22) (N := some 82) (v := ?_) (a' := ?_) (bl 30 8388607) rfl rfl (by kernel_rfl) (fun _ _ _ h => h) (Or.inl ⟨by rfl, ?_⟩) ?_ ?_
  rotate_left
  · intro w'
    go_simp
    with_reducible rfl
  rotate_left
  · simp only [Act.put, sA_, s0_, s1_, i64_w, i32_w]
    rfl
  refine pure_ (i := 23) (N := some 83) (v := undef) (a' := ?_) (bl 30 16777215) rfl rfl (by kernel_rfl) (fun _ _ _ h => h) (Or.inr ⟨by rfl, rfl⟩) ?_ ?_
  rotate_left
  · simp only [Act.put, sA_, s0_, s1_, i64_w, i32_w]
    rfl
  refine pure_ (i := 24) (N := some 84) (v := undef) (a' := ?_) (bl 30 33554431) rfl rfl (by kernel_rfl) (fun _ _ _ h => h) (Or.inr ⟨by rfl, rfl⟩) ?_ ?_
  rotate_left
  · simp only [Act.put, sA_, s0_, s1_, i64_w, i32_w]
    rfl
  refine pure_ (i := 25) (N := some 85) (v := undef) (a' := ?_) (bl 30 67108863) rfl rfl (by kernel_rfl) (fun _ _ _ h => h) (Or.inr ⟨by rfl, rfl⟩) ?_ ?_
  rotate_left
  · simp only [Act.put, sA_, s0_, s1_, i64_w, i32_w]
    rfl
  refine pure_ (i := 26) (N := some 86) (v := undef) (a' := ?_) (bl 30 134217727) rfl rfl (by kernel_rfl) (fun _ _ _ h => h) (Or.inr ⟨by rfl, rfl⟩) ?_ ?_
  rotate_left
  · simp only [Act.put, sA_, s0_, s1_, i64_w, i32_w]
    rfl
  refine pure_ (i := 27) (N := some 87) (v := undef) (a' := ?_) (bl 30 268435455) rfl rfl (by kernel_rfl) (fun _ _ _ h => h) (Or.inr ⟨by rfl, rfl⟩) ?_ ?_
  rotate_left
  · simp only [Act.put, sA_, s0_, s1_, i64_w, i32_w]
    rfl
  refine pure_ (i := 28) (N := some 88) (v := undef) (a' := ?_) (bl 30 536870911) rfl rfl (by kernel_rfl) (fun _ _ _ h => h) (Or.inr ⟨by rfl, rfl⟩) ?_ ?_
  rotate_left
  · simp only [Act.put, sA_, s0_, s1_, i64_w, i32_w]
    rfl
  refine pure_ (i := 29) (N := some 89) (v := ?_) (a' := ?_) (bl 30 1073741823) rfl rfl (by kernel_rfl) (fun _ _ _ h => h) (Or.inl ⟨by rfl, ?_⟩) ?_ ?_
  rotate_left
  · intro w'
    go_simp
    with_reducible rfl
  rotate_left
  · simp only [Act.put, sA_, s0_, s1_, i64_w, i32_w]
    rfl
  refine done_ (by kernel_rfl) ?_
  go_wp2
  go_ret
  exact ⟨rfl, below_drew HBb.out⟩
set_option maxRecDepth 100000 in
set_option maxHeartbeats 8000000 in
theorem joins_wordsA (s t : ByteArray) (a b : S62) (pa pb : Int) (W : World) (hGL : GL W) (hs : ¬ 490 < s.size) (ht : ¬ 490 < t.size) (hpa : pattern_Parse.f s = some ([a], 0, pa)) (hpb : pattern_Parse.f t = some ([b], 0, pb)) (hla : a.f0.length ≤ 1000000) (hlb : b.f0.length ≤ 1000000) (h : ¬ 100 < a.f0.length + b.f0.length) (h6 : shapeOf a.f0 a.f1 a.f2 = 6) : Calls Tryd.prog 9 #[.string s, .string t] W (JoinsEnd W) := by
  have HG := Aside0.mk hGL
  have HB0 := Aside0.mk (Below.refl W.heap.size W)
  have HPa := Aside0.mk hpa
  have HPb := Aside0.mk hpb
  have hs1 : decide (490 < (s.size : Int)) = false := decide_eq_false (by omega)
  have ht1 : decide (490 < (t.size : Int)) = false := decide_eq_false (by omega)
  have HLA := Aside0.mk hla
  have HLB := Aside0.mk hlb
  clear hGL hpa hpb hs ht
  go_enter Tryd.func9, Tryd.ntmps9
  go_wp2_with (fail)
  (with_reducible refine (tabardlaw13_shown.calls true _ (HG.out.below HB0.out) rfl).mono ?_)
  rintro e w1 ⟨rfl, hb⟩
  have HB1 := Aside0.mk (HB0.out.trans (hb.mono HB0.out.size))
  clear hb
  go_wp2_with (fail)
  (with_reducible refine (pattern_Parse.calls s [a] 0 pa _ (HG.out.below HB1.out) HPa.out).mono ?_)
  rintro e wa ⟨va, rfl, hSa, hb⟩
  obtain ⟨Aa, ca, rfl, hca, hCa⟩ := Kd.S_reads hSa
  rw [show [a].length = 1 from rfl] at hca hCa ⊢
  have HBa := Aside0.mk (below_alloc (HB1.out.trans (hb.mono HB1.out.size)) (.cells #[.slice Aa 1 ca] 55 (0, 0)))
  have HCa := Aside0.mk (Kd.C_below hCa (below_alloc (Below.refl wa.heap.size wa) (.cells #[.slice Aa 1 ca] 55 (0, 0))))
  clear hSa hb hCa
  go_wp2_with (fail)
  (with_reducible refine (pattern_Parse.calls t [b] 0 pb _ (HG.out.below HBa.out) HPb.out).mono ?_)
  rintro e wb ⟨vb, rfl, hSb, hb⟩
  obtain ⟨Ab, cb, rfl, hcb, hCb⟩ := Kd.S_reads hSb
  rw [show [b].length = 1 from rfl] at hcb hCb ⊢
  have HBb := Aside0.mk (below_alloc (HBa.out.trans (hb.mono HBa.out.size)) (.cells #[.slice Ab 1 cb] 55 (0, 0)))
  have e1 : wb.heap[wa.heap.size]? = some (.cells #[.slice Aa 1 ca] 55 (0, 0)) := (hb.block wa.heap.size (by rw [show (wa.alloc (.cells #[.slice Aa 1 ca] 55 (0, 0))).heap.size = wa.heap.size + 1 from Array.size_push _]; omega)).trans Array.getElem?_push_size
  have c1 : (wb.alloc (.cells #[.slice Ab 1 cb] 55 (0, 0))).cell? ⟨wa.heap.size, 0, none⟩ = some (.slice Aa 1 ca) := cel_alloc _ (blk_cell e1 0)
  have c2 : (wb.alloc (.cells #[.slice Ab 1 cb] 55 (0, 0))).cell? ⟨wb.heap.size, 0, none⟩ = some (.slice Ab 1 cb) := (blk_cell (heap_alloc_new wb (.cells #[.slice Ab 1 cb] 55 (0, 0))) 0).trans rfl
  have hCa2 := Kd.C_below HCa.out (below_alloc hb (.cells #[.slice Ab 1 cb] 55 (0, 0)))
  have hCb2 := Kd.C_below hCb (below_alloc (Below.refl wb.heap.size wb) (.cells #[.slice Ab 1 cb] 55 (0, 0)))
  obtain ⟨ada, Aa0, ca0, rfl, xa0, xa1, xa2, ia0, ga0⟩ := at_T62 hCa2 0 (by omega) (by omega)
  obtain ⟨adb, Ab0, cb0, rfl, xb0, xb1, xb2, ib0, gb0⟩ := at_T62 hCb2 0 (by omega) (by omega)
  have hz : ∀ ad : Addr, ad.add ((0 : Int).toNat * 3) = ad := fun ad => by simp [Addr.add]
  rw [hz] at xa0 xa1 xa2 xb0 xb1 xb2
  rw [show rd_T62 [a] 0 = a from rfl] at xa0 xa1 xa2 ia0 ga0
  rw [show rd_T62 [b] 0 = b from rfl] at xb0 xb1 xb2 ib0 gb0
  clear hSb hb hCb e1 HCa hz
  go_upto_region 6 with (fail)
  generalize wb.alloc (.cells #[.slice (some adb) 1 cb] 55 (0, 0)) = W2 at *
  have HCA := Aside0.mk hCa2
  have HCB := Aside0.mk hCb2
  have HSa := Aside0.mk (fun w (hW : Below W2.heap.size W2 w) => pattern_Shape.calls Aa0 ca0 a.f0 a.f1 a.f2 (shapeOf a.f0 a.f1 a.f2) w (HG.out.below (HBb.out.trans (hW.mono HBb.out.size))) (Kd.C_below ga0 hW) ia0 (by unfold pattern_Shape.f; rw [if_pos HLA.out]))
  have HSb := Aside0.mk (fun w (hW : Below W2.heap.size W2 w) => pattern_Shape.calls Ab0 cb0 b.f0 b.f1 b.f2 (shapeOf b.f0 b.f1 b.f2) w (HG.out.below (HBb.out.trans (hW.mono HBb.out.size))) (Kd.C_below gb0 hW) ib0 (by unfold pattern_Shape.f; rw [if_pos HLB.out]))
  have hla2 : a.f0.length ≤ 1000000 := HLA.out
  have hlb2 : b.f0.length ≤ 1000000 := HLB.out
  have i01 : (0 : Int) < 1 := by decide
  clear hCa2 hCb2 ga0 gb0 hla hlb
  generalize a.f0.length = na at *
  generalize b.f0.length = nb at *
  generalize hka : shapeOf a.f0 a.f1 a.f2 = ka at *
  generalize hkb : shapeOf b.f0 b.f1 b.f2 = kb at *
  have HKA := Aside0.mk hka
  have HKB := Aside0.mk hkb
  clear hka hkb
  have sw : wrap64 ((na : Int) + (nb : Int)) = (na : Int) + (nb : Int) := by unfold wrap64; omega
  have q1 : decide (100 < wrap64 ((na : Int) + (nb : Int))) = false := decide_eq_false (by rw [sw]; omega)
  have q2 : decide (100 < (na : Int) + (nb : Int)) = false := decide_eq_false (by omega)
  clear sw h
  have k1 : (ka == 6) = true := beq_iff_eq.mpr h6
  clear h6
  go_wp2
  refine start_ (n := 30) (S := fun w' => w'.cell? ⟨wa.heap.size, 0, none⟩ = some (.slice (some ada) 1 ca) ∧ w'.cell? ⟨wb.heap.size, 0, none⟩ = some (.slice (some adb) 1 cb) ∧ w'.cell? ada = some (.slice Aa0 na ca0) ∧ w'.cell? ⟨ada.block, ada.off + 1, none⟩ = some (.bool a.f1) ∧ w'.cell? ⟨ada.block, ada.off + 2, none⟩ = some (.int .i64 a.f2) ∧ w'.cell? adb = some (.slice Ab0 nb cb0) ∧ w'.cell? ⟨adb.block, adb.off + 1, none⟩ = some (.bool b.f1) ∧ w'.cell? ⟨adb.block, adb.off + 2, none⟩ = some (.int .i64 b.f2)) (ds := []) (bl 30 0) (by kernel_rfl) rfl (by kernel_rfl) ⟨c1, c2, xa0, xa1, xa2, xb0, xb1, xb2⟩ (fun hHeld => ?_)
  refine pure_ (i := 0) (N := some 60) (v := ?_) (a' := ?_) (bl 30 1) rfl rfl (by kernel_rfl) (fun _ _ _ h => h) (Or.inl ⟨by rfl, ?_⟩) ?_ ?_
  rotate_left
  · intro w'
    go_simp
    with_reducible rfl
  rotate_left
  · simp only [Act.put, sA_, s0_, s1_, i64_w, i32_w]
    rfl
  refine pure_ (i := 6) (N := some 66) (v := ?_) (a' := ?_) (bl 30 65) rfl rfl (by kernel_rfl) (fun _ _ _ h => h) (Or.inl ⟨by rfl, ?_⟩) ?_ ?_
  rotate_left
  · intro w'
    go_simp
    with_reducible rfl
  rotate_left
  · simp only [Act.put, sA_, s0_, s1_, i64_w, i32_w]
    rfl
  refine take_ (i := 1) (N := some 61) (v := ?_) (a' := ?_) (bl 30 67) rfl rfl (by kernel_rfl) (fun _ _ _ h => h) (Or.inl ⟨by rfl, ?_⟩) hHeld ?_ ?_
  rotate_left
  · rintro w' ⟨s0, s1, s2, s3, s4, s5, s6, s7⟩
    go_simp
    with_reducible rfl
  rotate_left
  · simp only [Act.put, sA_, s0_, s1_, i64_w, i32_w]
    rfl
  refine pure_ (i := 2) (N := some 62) (v := ?_) (a' := ?_) (bl 30 71) rfl rfl (by kernel_rfl) (fun _ _ _ h => h) (Or.inl ⟨by rfl, ?_⟩) ?_ ?_
  rotate_left
  · intro w'
    go_simp
    with_reducible rfl
  rotate_left
  · simp only [Act.put, sA_, s0_, s1_, i64_w, i32_w]
    rfl
  refine pure_ (i := 3) (N := some 63) (v := ?_) (a' := ?_) (bl 30 79) rfl rfl (by kernel_rfl) (fun _ _ _ h => h) (Or.inl ⟨by rfl, ?_⟩) ?_ ?_
  rotate_left
  · intro w'
    go_simp
    with_reducible rfl
  rotate_left
  · simp only [Act.put, sA_, s0_, s1_, i64_w, i32_w]
    rfl
  refine take_ (i := 4) (N := some 64) (v := ?_) (a' := ?_) (bl 30 95) rfl rfl (by kernel_rfl) (fun _ _ _ h => h) (Or.inl ⟨by rfl, ?_⟩) hHeld ?_ ?_
  rotate_left
  · rintro w' ⟨s0, s1, s2, s3, s4, s5, s6, s7⟩
    go_simp
    with_reducible rfl
  rotate_left
  · simp only [Act.put, sA_, s0_, s1_, i64_w, i32_w]
    rfl
  refine pure_ (i := 5) (N := some 65) (v := ?_) (a' := ?_) (bl 30 127) rfl rfl (by kernel_rfl) (fun _ _ _ h => h) (Or.inl ⟨by rfl, ?_⟩) ?_ ?_
  rotate_left
  · intro w'
    go_simp
    with_reducible rfl
  rotate_left
  · simp only [Act.put, sA_, s0_, s1_, i64_w, i32_w]
    rfl
  refine take_ (i := 7) (N := some 67) (v := ?_) (a' := ?_) (bl 30 255) rfl rfl (by kernel_rfl) (fun _ _ _ h => h) (Or.inl ⟨by rfl, ?_⟩) hHeld ?_ ?_
  rotate_left
  · rintro w' ⟨s0, s1, s2, s3, s4, s5, s6, s7⟩
    go_simp
    with_reducible rfl
  rotate_left
  · simp only [Act.put, sA_, s0_, s1_, i64_w, i32_w]
    rfl
  refine pure_ (i := 8) (N := some 68) (v := ?_) (a' := ?_) (bl 30 511) rfl rfl (by kernel_rfl) (fun _ _ _ h => h) (Or.inl ⟨by rfl, ?_⟩) ?_ ?_
  rotate_left
  · intro w'
    go_simp
    with_reducible rfl
  rotate_left
  · simp only [Act.put, sA_, s0_, s1_, i64_w, i32_w]
    rfl
  refine pure_ (i := 9) (N := some 69) (v := ?_) (a' := ?_) (bl 30 1023) rfl rfl (by kernel_rfl) (fun _ _ _ h => h) (Or.inl ⟨by rfl, ?_⟩) ?_ ?_
  rotate_left
  · intro w'
    go_simp
    with_reducible rfl
  rotate_left
  · simp only [Act.put, sA_, s0_, s1_, i64_w, i32_w]
    rfl
  refine take_ (i := 10) (N := some 70) (v := ?_) (a' := ?_) (bl 30 2047) rfl rfl (by kernel_rfl) (fun _ _ _ h => h) (Or.inl ⟨by rfl, ?_⟩) hHeld ?_ ?_
  rotate_left
  · rintro w' ⟨s0, s1, s2, s3, s4, s5, s6, s7⟩
    go_simp
    with_reducible rfl
  rotate_left
  · simp only [Act.put, sA_, s0_, s1_, i64_w, i32_w]
    rfl
  refine pure_ (i := 11) (N := some 71) (v := ?_) (a' := ?_) (bl 30 4095) rfl rfl (by kernel_rfl) (fun _ _ _ h => h) (Or.inl ⟨by rfl, ?_⟩) ?_ ?_
  rotate_left
  · intro w'
    go_simp
    with_reducible rfl
  rotate_left
  · simp only [Act.put, sA_, s0_, s1_, i64_w, i32_w]
    rfl
  refine pure_ (i := 12) (N := some 72) (v := ?_) (a' := ?_) (bl 30 8191) rfl rfl (by kernel_rfl) (fun _ _ _ h => h) (Or.inl ⟨by rfl, ?_⟩) ?_ ?_
  rotate_left
  · intro w'
    go_simp
    with_reducible rfl
  rotate_left
  · simp only [Act.put, sA_, s0_, s1_, i64_w, i32_w]
    rfl
  refine pure_ (i := 13) (N := some 73) (v := ?_) (a' := ?_) (bl 30 16383) rfl rfl (by kernel_rfl) (fun _ _ _ h => h) (Or.inl ⟨by rfl, ?_⟩) ?_ ?_
  rotate_left
  · intro w'
    go_simp
    with_reducible rfl
  rotate_left
  · simp only [Act.put, sA_, s0_, s1_, i64_w, i32_w]
    rfl
  refine pure_ (i := 14) (N := some 74) (v := ?_) (a' := ?_) (bl 30 32767) rfl rfl (by kernel_rfl) (fun _ _ _ h => h) (Or.inl ⟨by rfl, ?_⟩) ?_ ?_
  rotate_left
  · intro w'
    go_simp
    with_reducible rfl
  rotate_left
  · simp only [Act.put, sA_, s0_, s1_, i64_w, i32_w]
    rfl
  refine pure_ (i := 15) (N := some 75) (v := ?_) (a' := ?_) (bl 30 65535) rfl rfl (by kernel_rfl) (fun _ _ _ h => h) (Or.inl ⟨by rfl, ?_⟩) ?_ ?_
  rotate_left
  · intro w'
    go_simp
    with_reducible rfl
  rotate_left
  · simp only [Act.put, sA_, s0_, s1_, i64_w, i32_w]
    rfl
  refine take_ (i := 16) (N := some 76) (v := ?_) (a' := ?_) (bl 30 131071) rfl rfl (by kernel_rfl) (fun _ _ _ h => h) (Or.inl ⟨by rfl, ?_⟩) hHeld ?_ ?_
  rotate_left
  · rintro w' ⟨s0, s1, s2, s3, s4, s5, s6, s7⟩
    go_simp
    with_reducible rfl
  rotate_left
  · simp only [Act.put, sA_, s0_, s1_, i64_w, i32_w]
    rfl
  refine pure_ (i := 17) (N := some 77) (v := ?_) (a' := ?_) (bl 30 262143) rfl rfl (by kernel_rfl) (fun _ _ _ h => h) (Or.inl ⟨by rfl, ?_⟩) ?_ ?_
  rotate_left
  · intro w'
    go_simp
    with_reducible rfl
  rotate_left
  · simp only [Act.put, sA_, s0_, s1_, i64_w, i32_w]
    rfl
  refine take_ (i := 18) (N := some 78) (v := ?_) (a' := ?_) (bl 30 524287) rfl rfl (by kernel_rfl) (fun _ _ _ h => h) (Or.inl ⟨by rfl, ?_⟩) hHeld ?_ ?_
  rotate_left
  · rintro w' ⟨s0, s1, s2, s3, s4, s5, s6, s7⟩
    go_simp
    with_reducible rfl
  rotate_left
  · simp only [Act.put, sA_, s0_, s1_, i64_w, i32_w]
    rfl
  refine one_ (i := 19) (N := some 79) (bl 30 1048575) rfl rfl (by kernel_rfl) (by decide) (fun K hK => ?_)
  refine goes_ Tryd.func31 (by kernel_rfl) rfl #[.agg #[.slice Aa0 na ca0, .bool a.f1, .int .i64 a.f2]] (by rfl) rfl rfl (by simp only [List.map_toArray, List.map_cons, List.map_nil]; rfl) ?_
  with_reducible refine (HSa.out _ (below_drew (Below.refl _ _))).mono ?_
  rintro e w3 ⟨rfl, hb3⟩
  refine ⟨_, rfl, ?_⟩
  have HB3 := Aside0.mk ((below_drew (Below.refl W2.heap.size W2)).trans hb3)
  refine hK.out _ _ ⟨(HB3.out.cell (World.block_lt_of_cell? W2 _ c1)).trans c1, (HB3.out.cell (World.block_lt_of_cell? W2 _ c2)).trans c2, (HB3.out.cell (World.block_lt_of_cell? W2 _ xa0)).trans xa0, (HB3.out.cell (World.block_lt_of_cell? W2 _ xa1)).trans xa1, (HB3.out.cell (World.block_lt_of_cell? W2 _ xa2)).trans xa2, (HB3.out.cell (World.block_lt_of_cell? W2 _ xb0)).trans xb0, (HB3.out.cell (World.block_lt_of_cell? W2 _ xb1)).trans xb1, (HB3.out.cell (World.block_lt_of_cell? W2 _ xb2)).trans xb2⟩ (fun hHeld => ?_)
  clear hK K
  refine norm_ (a' := ?_) ?_ ?_
  rotate_left
  · show Act.put _ (some 79) _ = _
    simp only [Act.put, sA_, s0_, s1_, i64_w, i32_w]
    rfl
  refine pure_ (i := 20) (N := some 80) (v := ?_) (a' := ?_) (bl 30 2097151) rfl rfl (by kernel_rfl) (fun _ _ _ h => h) (Or.inl ⟨by rfl, ?_⟩) ?_ ?_
  rotate_left
  · intro w'
    go_simp
    with_reducible rfl
  rotate_left
  · simp only [Act.put, sA_, s0_, s1_, i64_w, i32_w]
    rfl
  refine pure_ (i := 21) (N := some 81) (v := ?_) (a' := ?_) (bl 30 4194303) rfl rfl (by kernel_rfl) (fun _ _ _ h => h) (Or.inl ⟨by rfl, ?_⟩) ?_ ?_
  rotate_left
  · intro w'
    go_simp
    with_reducible rfl
  rotate_left
  · simp only [Act.put, sA_, s0_, s1_, i64_w, i32_w]
    rfl
  refine pure_ (i := 22) (N := some 82) (v := ?_) (a' := ?_) (bl 30 8388607) rfl rfl (by kernel_rfl) (fun _ _ _ h => h) (Or.inl ⟨by rfl, ?_⟩) ?_ ?_
  rotate_left
  · intro w'
    go_simp
    with_reducible rfl
  rotate_left
  · simp only [Act.put, sA_, s0_, s1_, i64_w, i32_w]
    rfl
  refine pure_ (i := 23) (N := some 83) (v := undef) (a' := ?_) (bl 30 16777215) rfl rfl (by kernel_rfl) (fun _ _ _ h => h) (Or.inr ⟨by rfl, rfl⟩) ?_ ?_
  rotate_left
  · simp only [Act.put, sA_, s0_, s1_, i64_w, i32_w]
    rfl
  refine pure_ (i := 24) (N := some 84) (v := undef) (a' := ?_) (bl 30 33554431) rfl rfl (by kernel_rfl) (fun _ _ _ h => h) (Or.inr ⟨by rfl, rfl⟩) ?_ ?_
  rotate_left
  · simp only [Act.put, sA_, s0_, s1_, i64_w, i32_w]
    rfl
  refine pure_ (i := 25) (N := some 85) (v := undef) (a' := ?_) (bl 30 67108863) rfl rfl (by kernel_rfl) (fun _ _ _ h => h) (Or.inr ⟨by rfl, rfl⟩) ?_ ?_
  rotate_left
  · simp only [Act.put, sA_, s0_, s1_, i64_w, i32_w]
    rfl
  refine pure_ (i := 26) (N := some 86) (v := undef) (a' := ?_) (bl 30 134217727) rfl rfl (by kernel_rfl) (fun _ _ _ h => h) (Or.inr ⟨by rfl, rfl⟩) ?_ ?_
  rotate_left
  · simp only [Act.put, sA_, s0_, s1_, i64_w, i32_w]
    rfl
  refine pure_ (i := 27) (N := some 87) (v := undef) (a' := ?_) (bl 30 268435455) rfl rfl (by kernel_rfl) (fun _ _ _ h => h) (Or.inr ⟨by rfl, rfl⟩) ?_ ?_
  rotate_left
  · simp only [Act.put, sA_, s0_, s1_, i64_w, i32_w]
    rfl
  refine pure_ (i := 28) (N := some 88) (v := undef) (a' := ?_) (bl 30 536870911) rfl rfl (by kernel_rfl) (fun _ _ _ h => h) (Or.inr ⟨by rfl, rfl⟩) ?_ ?_
  rotate_left
  · simp only [Act.put, sA_, s0_, s1_, i64_w, i32_w]
    rfl
  refine pure_ (i := 29) (N := some 89) (v := ?_) (a' := ?_) (bl 30 1073741823) rfl rfl (by kernel_rfl) (fun _ _ _ h => h) (Or.inl ⟨by rfl, ?_⟩) ?_ ?_
  rotate_left
  · intro w'
    go_simp
    with_reducible rfl
  rotate_left
  · simp only [Act.put, sA_, s0_, s1_, i64_w, i32_w]
    rfl
  refine done_ (by kernel_rfl) ?_
  go_wp2
  go_ret
  exact ⟨rfl, HBb.out.trans (HB3.out.mono HBb.out.size)⟩
set_option maxRecDepth 100000 in
set_option maxHeartbeats 8000000 in
theorem joins_wordsB (s t : ByteArray) (a b : S62) (pa pb : Int) (W : World) (hGL : GL W) (hs : ¬ 490 < s.size) (ht : ¬ 490 < t.size) (hpa : pattern_Parse.f s = some ([a], 0, pa)) (hpb : pattern_Parse.f t = some ([b], 0, pb)) (hla : a.f0.length ≤ 1000000) (hlb : b.f0.length ≤ 1000000) (h : ¬ 100 < a.f0.length + b.f0.length) (h6 : ¬ shapeOf a.f0 a.f1 a.f2 = 6) (h7 : shapeOf b.f0 b.f1 b.f2 = 6) : Calls Tryd.prog 9 #[.string s, .string t] W (JoinsEnd W) := by
  have HG := Aside0.mk hGL
  have HB0 := Aside0.mk (Below.refl W.heap.size W)
  have HPa := Aside0.mk hpa
  have HPb := Aside0.mk hpb
  have hs1 : decide (490 < (s.size : Int)) = false := decide_eq_false (by omega)
  have ht1 : decide (490 < (t.size : Int)) = false := decide_eq_false (by omega)
  have HLA := Aside0.mk hla
  have HLB := Aside0.mk hlb
  clear hGL hpa hpb hs ht
  go_enter Tryd.func9, Tryd.ntmps9
  go_wp2_with (fail)
  (with_reducible refine (tabardlaw13_shown.calls true _ (HG.out.below HB0.out) rfl).mono ?_)
  rintro e w1 ⟨rfl, hb⟩
  have HB1 := Aside0.mk (HB0.out.trans (hb.mono HB0.out.size))
  clear hb
  go_wp2_with (fail)
  (with_reducible refine (pattern_Parse.calls s [a] 0 pa _ (HG.out.below HB1.out) HPa.out).mono ?_)
  rintro e wa ⟨va, rfl, hSa, hb⟩
  obtain ⟨Aa, ca, rfl, hca, hCa⟩ := Kd.S_reads hSa
  rw [show [a].length = 1 from rfl] at hca hCa ⊢
  have HBa := Aside0.mk (below_alloc (HB1.out.trans (hb.mono HB1.out.size)) (.cells #[.slice Aa 1 ca] 55 (0, 0)))
  have HCa := Aside0.mk (Kd.C_below hCa (below_alloc (Below.refl wa.heap.size wa) (.cells #[.slice Aa 1 ca] 55 (0, 0))))
  clear hSa hb hCa
  go_wp2_with (fail)
  (with_reducible refine (pattern_Parse.calls t [b] 0 pb _ (HG.out.below HBa.out) HPb.out).mono ?_)
  rintro e wb ⟨vb, rfl, hSb, hb⟩
  obtain ⟨Ab, cb, rfl, hcb, hCb⟩ := Kd.S_reads hSb
  rw [show [b].length = 1 from rfl] at hcb hCb ⊢
  have HBb := Aside0.mk (below_alloc (HBa.out.trans (hb.mono HBa.out.size)) (.cells #[.slice Ab 1 cb] 55 (0, 0)))
  have e1 : wb.heap[wa.heap.size]? = some (.cells #[.slice Aa 1 ca] 55 (0, 0)) := (hb.block wa.heap.size (by rw [show (wa.alloc (.cells #[.slice Aa 1 ca] 55 (0, 0))).heap.size = wa.heap.size + 1 from Array.size_push _]; omega)).trans Array.getElem?_push_size
  have c1 : (wb.alloc (.cells #[.slice Ab 1 cb] 55 (0, 0))).cell? ⟨wa.heap.size, 0, none⟩ = some (.slice Aa 1 ca) := cel_alloc _ (blk_cell e1 0)
  have c2 : (wb.alloc (.cells #[.slice Ab 1 cb] 55 (0, 0))).cell? ⟨wb.heap.size, 0, none⟩ = some (.slice Ab 1 cb) := (blk_cell (heap_alloc_new wb (.cells #[.slice Ab 1 cb] 55 (0, 0))) 0).trans rfl
  have hCa2 := Kd.C_below HCa.out (below_alloc hb (.cells #[.slice Ab 1 cb] 55 (0, 0)))
  have hCb2 := Kd.C_below hCb (below_alloc (Below.refl wb.heap.size wb) (.cells #[.slice Ab 1 cb] 55 (0, 0)))
  obtain ⟨ada, Aa0, ca0, rfl, xa0, xa1, xa2, ia0, ga0⟩ := at_T62 hCa2 0 (by omega) (by omega)
  obtain ⟨adb, Ab0, cb0, rfl, xb0, xb1, xb2, ib0, gb0⟩ := at_T62 hCb2 0 (by omega) (by omega)
  have hz : ∀ ad : Addr, ad.add ((0 : Int).toNat * 3) = ad := fun ad => by simp [Addr.add]
  rw [hz] at xa0 xa1 xa2 xb0 xb1 xb2
  rw [show rd_T62 [a] 0 = a from rfl] at xa0 xa1 xa2 ia0 ga0
  rw [show rd_T62 [b] 0 = b from rfl] at xb0 xb1 xb2 ib0 gb0
  clear hSb hb hCb e1 HCa hz
  go_upto_region 6 with (fail)
  generalize wb.alloc (.cells #[.slice (some adb) 1 cb] 55 (0, 0)) = W2 at *
  have HCA := Aside0.mk hCa2
  have HCB := Aside0.mk hCb2
  have HSa := Aside0.mk (fun w (hW : Below W2.heap.size W2 w) => pattern_Shape.calls Aa0 ca0 a.f0 a.f1 a.f2 (shapeOf a.f0 a.f1 a.f2) w (HG.out.below (HBb.out.trans (hW.mono HBb.out.size))) (Kd.C_below ga0 hW) ia0 (by unfold pattern_Shape.f; rw [if_pos HLA.out]))
  have HSb := Aside0.mk (fun w (hW : Below W2.heap.size W2 w) => pattern_Shape.calls Ab0 cb0 b.f0 b.f1 b.f2 (shapeOf b.f0 b.f1 b.f2) w (HG.out.below (HBb.out.trans (hW.mono HBb.out.size))) (Kd.C_below gb0 hW) ib0 (by unfold pattern_Shape.f; rw [if_pos HLB.out]))
  have hla2 : a.f0.length ≤ 1000000 := HLA.out
  have hlb2 : b.f0.length ≤ 1000000 := HLB.out
  have i01 : (0 : Int) < 1 := by decide
  clear hCa2 hCb2 ga0 gb0 hla hlb
  generalize a.f0.length = na at *
  generalize b.f0.length = nb at *
  generalize hka : shapeOf a.f0 a.f1 a.f2 = ka at *
  generalize hkb : shapeOf b.f0 b.f1 b.f2 = kb at *
  have HKA := Aside0.mk hka
  have HKB := Aside0.mk hkb
  clear hka hkb
  have sw : wrap64 ((na : Int) + (nb : Int)) = (na : Int) + (nb : Int) := by unfold wrap64; omega
  have q1 : decide (100 < wrap64 ((na : Int) + (nb : Int))) = false := decide_eq_false (by rw [sw]; omega)
  have q2 : decide (100 < (na : Int) + (nb : Int)) = false := decide_eq_false (by omega)
  clear sw h
  have k1 : (ka == 6) = false := beq_eq_false_iff_ne.mpr h6
  have k2 : (kb == 6) = true := beq_iff_eq.mpr h7
  clear h6 h7
  go_wp2
  refine start_ (n := 30) (S := fun w' => w'.cell? ⟨wa.heap.size, 0, none⟩ = some (.slice (some ada) 1 ca) ∧ w'.cell? ⟨wb.heap.size, 0, none⟩ = some (.slice (some adb) 1 cb) ∧ w'.cell? ada = some (.slice Aa0 na ca0) ∧ w'.cell? ⟨ada.block, ada.off + 1, none⟩ = some (.bool a.f1) ∧ w'.cell? ⟨ada.block, ada.off + 2, none⟩ = some (.int .i64 a.f2) ∧ w'.cell? adb = some (.slice Ab0 nb cb0) ∧ w'.cell? ⟨adb.block, adb.off + 1, none⟩ = some (.bool b.f1) ∧ w'.cell? ⟨adb.block, adb.off + 2, none⟩ = some (.int .i64 b.f2)) (ds := []) (bl 30 0) (by kernel_rfl) rfl (by kernel_rfl) ⟨c1, c2, xa0, xa1, xa2, xb0, xb1, xb2⟩ (fun hHeld => ?_)
  refine pure_ (i := 0) (N := some 60) (v := ?_) (a' := ?_) (bl 30 1) rfl rfl (by kernel_rfl) (fun _ _ _ h => h) (Or.inl ⟨by rfl, ?_⟩) ?_ ?_
  rotate_left
  · intro w'
    go_simp
    with_reducible rfl
  rotate_left
  · simp only [Act.put, sA_, s0_, s1_, i64_w, i32_w]
    rfl
  refine pure_ (i := 6) (N := some 66) (v := ?_) (a' := ?_) (bl 30 65) rfl rfl (by kernel_rfl) (fun _ _ _ h => h) (Or.inl ⟨by rfl, ?_⟩) ?_ ?_
  rotate_left
  · intro w'
    go_simp
    with_reducible rfl
  rotate_left
  · simp only [Act.put, sA_, s0_, s1_, i64_w, i32_w]
    rfl
  refine take_ (i := 1) (N := some 61) (v := ?_) (a' := ?_) (bl 30 67) rfl rfl (by kernel_rfl) (fun _ _ _ h => h) (Or.inl ⟨by rfl, ?_⟩) hHeld ?_ ?_
  rotate_left
  · rintro w' ⟨s0, s1, s2, s3, s4, s5, s6, s7⟩
    go_simp
    with_reducible rfl
  rotate_left
  · simp only [Act.put, sA_, s0_, s1_, i64_w, i32_w]
    rfl
  refine pure_ (i := 2) (N := some 62) (v := ?_) (a' := ?_) (bl 30 71) rfl rfl (by kernel_rfl) (fun _ _ _ h => h) (Or.inl ⟨by rfl, ?_⟩) ?_ ?_
  rotate_left
  · intro w'
    go_simp
    with_reducible rfl
  rotate_left
  · simp only [Act.put, sA_, s0_, s1_, i64_w, i32_w]
    rfl
  refine pure_ (i := 3) (N := some 63) (v := ?_) (a' := ?_) (bl 30 79) rfl rfl (by kernel_rfl) (fun _ _ _ h => h) (Or.inl ⟨by rfl, ?_⟩) ?_ ?_
  rotate_left
  · intro w'
    go_simp
    with_reducible rfl
  rotate_left
  · simp only [Act.put, sA_, s0_, s1_, i64_w, i32_w]
    rfl
  refine take_ (i := 4) (N := some 64) (v := ?_) (a' := ?_) (bl 30 95) rfl rfl (by kernel_rfl) (fun _ _ _ h => h) (Or.inl ⟨by rfl, ?_⟩) hHeld ?_ ?_
  rotate_left
  · rintro w' ⟨s0, s1, s2, s3, s4, s5, s6, s7⟩
    go_simp
    with_reducible rfl
  rotate_left
  · simp only [Act.put, sA_, s0_, s1_, i64_w, i32_w]
    rfl
  refine pure_ (i := 5) (N := some 65) (v := ?_) (a' := ?_) (bl 30 127) rfl rfl (by kernel_rfl) (fun _ _ _ h => h) (Or.inl ⟨by rfl, ?_⟩) ?_ ?_
  rotate_left
  · intro w'
    go_simp
    with_reducible rfl
  rotate_left
  · simp only [Act.put, sA_, s0_, s1_, i64_w, i32_w]
    rfl
  refine take_ (i := 7) (N := some 67) (v := ?_) (a' := ?_) (bl 30 255) rfl rfl (by kernel_rfl) (fun _ _ _ h => h) (Or.inl ⟨by rfl, ?_⟩) hHeld ?_ ?_
  rotate_left
  · rintro w' ⟨s0, s1, s2, s3, s4, s5, s6, s7⟩
    go_simp
    with_reducible rfl
  rotate_left
  · simp only [Act.put, sA_, s0_, s1_, i64_w, i32_w]
    rfl
  refine pure_ (i := 8) (N := some 68) (v := ?_) (a' := ?_) (bl 30 511) rfl rfl (by kernel_rfl) (fun _ _ _ h => h) (Or.inl ⟨by rfl, ?_⟩) ?_ ?_
  rotate_left
  · intro w'
    go_simp
    with_reducible rfl
  rotate_left
  · simp only [Act.put, sA_, s0_, s1_, i64_w, i32_w]
    rfl
  refine pure_ (i := 9) (N := some 69) (v := ?_) (a' := ?_) (bl 30 1023) rfl rfl (by kernel_rfl) (fun _ _ _ h => h) (Or.inl ⟨by rfl, ?_⟩) ?_ ?_
  rotate_left
  · intro w'
    go_simp
    with_reducible rfl
  rotate_left
  · simp only [Act.put, sA_, s0_, s1_, i64_w, i32_w]
    rfl
  refine take_ (i := 10) (N := some 70) (v := ?_) (a' := ?_) (bl 30 2047) rfl rfl (by kernel_rfl) (fun _ _ _ h => h) (Or.inl ⟨by rfl, ?_⟩) hHeld ?_ ?_
  rotate_left
  · rintro w' ⟨s0, s1, s2, s3, s4, s5, s6, s7⟩
    go_simp
    with_reducible rfl
  rotate_left
  · simp only [Act.put, sA_, s0_, s1_, i64_w, i32_w]
    rfl
  refine pure_ (i := 11) (N := some 71) (v := ?_) (a' := ?_) (bl 30 4095) rfl rfl (by kernel_rfl) (fun _ _ _ h => h) (Or.inl ⟨by rfl, ?_⟩) ?_ ?_
  rotate_left
  · intro w'
    go_simp
    with_reducible rfl
  rotate_left
  · simp only [Act.put, sA_, s0_, s1_, i64_w, i32_w]
    rfl
  refine pure_ (i := 12) (N := some 72) (v := ?_) (a' := ?_) (bl 30 8191) rfl rfl (by kernel_rfl) (fun _ _ _ h => h) (Or.inl ⟨by rfl, ?_⟩) ?_ ?_
  rotate_left
  · intro w'
    go_simp
    with_reducible rfl
  rotate_left
  · simp only [Act.put, sA_, s0_, s1_, i64_w, i32_w]
    rfl
  refine pure_ (i := 13) (N := some 73) (v := ?_) (a' := ?_) (bl 30 16383) rfl rfl (by kernel_rfl) (fun _ _ _ h => h) (Or.inl ⟨by rfl, ?_⟩) ?_ ?_
  rotate_left
  · intro w'
    go_simp
    with_reducible rfl
  rotate_left
  · simp only [Act.put, sA_, s0_, s1_, i64_w, i32_w]
    rfl
  refine pure_ (i := 14) (N := some 74) (v := ?_) (a' := ?_) (bl 30 32767) rfl rfl (by kernel_rfl) (fun _ _ _ h => h) (Or.inl ⟨by rfl, ?_⟩) ?_ ?_
  rotate_left
  · intro w'
    go_simp
    with_reducible rfl
  rotate_left
  · simp only [Act.put, sA_, s0_, s1_, i64_w, i32_w]
    rfl
  refine pure_ (i := 15) (N := some 75) (v := ?_) (a' := ?_) (bl 30 65535) rfl rfl (by kernel_rfl) (fun _ _ _ h => h) (Or.inl ⟨by rfl, ?_⟩) ?_ ?_
  rotate_left
  · intro w'
    go_simp
    with_reducible rfl
  rotate_left
  · simp only [Act.put, sA_, s0_, s1_, i64_w, i32_w]
    rfl
  refine take_ (i := 16) (N := some 76) (v := ?_) (a' := ?_) (bl 30 131071) rfl rfl (by kernel_rfl) (fun _ _ _ h => h) (Or.inl ⟨by rfl, ?_⟩) hHeld ?_ ?_
  rotate_left
  · rintro w' ⟨s0, s1, s2, s3, s4, s5, s6, s7⟩
    go_simp
    with_reducible rfl
  rotate_left
  · simp only [Act.put, sA_, s0_, s1_, i64_w, i32_w]
    rfl
  refine pure_ (i := 17) (N := some 77) (v := ?_) (a' := ?_) (bl 30 262143) rfl rfl (by kernel_rfl) (fun _ _ _ h => h) (Or.inl ⟨by rfl, ?_⟩) ?_ ?_
  rotate_left
  · intro w'
    go_simp
    with_reducible rfl
  rotate_left
  · simp only [Act.put, sA_, s0_, s1_, i64_w, i32_w]
    rfl
  refine take_ (i := 18) (N := some 78) (v := ?_) (a' := ?_) (bl 30 524287) rfl rfl (by kernel_rfl) (fun _ _ _ h => h) (Or.inl ⟨by rfl, ?_⟩) hHeld ?_ ?_
  rotate_left
  · rintro w' ⟨s0, s1, s2, s3, s4, s5, s6, s7⟩
    go_simp
    with_reducible rfl
  rotate_left
  · simp only [Act.put, sA_, s0_, s1_, i64_w, i32_w]
    rfl
  refine one_ (i := 19) (N := some 79) (bl 30 1048575) rfl rfl (by kernel_rfl) (by decide) (fun K hK => ?_)
  refine goes_ Tryd.func31 (by kernel_rfl) rfl #[.agg #[.slice Aa0 na ca0, .bool a.f1, .int .i64 a.f2]] (by rfl) rfl rfl (by simp only [List.map_toArray, List.map_cons, List.map_nil]; rfl) ?_
  with_reducible refine (HSa.out _ (below_drew (Below.refl _ _))).mono ?_
  rintro e w3 ⟨rfl, hb3⟩
  refine ⟨_, rfl, ?_⟩
  have HB3 := Aside0.mk ((below_drew (Below.refl W2.heap.size W2)).trans hb3)
  refine hK.out _ _ ⟨(HB3.out.cell (World.block_lt_of_cell? W2 _ c1)).trans c1, (HB3.out.cell (World.block_lt_of_cell? W2 _ c2)).trans c2, (HB3.out.cell (World.block_lt_of_cell? W2 _ xa0)).trans xa0, (HB3.out.cell (World.block_lt_of_cell? W2 _ xa1)).trans xa1, (HB3.out.cell (World.block_lt_of_cell? W2 _ xa2)).trans xa2, (HB3.out.cell (World.block_lt_of_cell? W2 _ xb0)).trans xb0, (HB3.out.cell (World.block_lt_of_cell? W2 _ xb1)).trans xb1, (HB3.out.cell (World.block_lt_of_cell? W2 _ xb2)).trans xb2⟩ (fun hHeld => ?_)
  clear hK K
  refine norm_ (a' := ?_) ?_ ?_
  rotate_left
  · show Act.put _ (some 79) _ = _
    simp only [Act.put, sA_, s0_, s1_, i64_w, i32_w]
    rfl
  refine pure_ (i := 20) (N := some 80) (v := ?_) (a' := ?_) (bl 30 2097151) rfl rfl (by kernel_rfl) (fun _ _ _ h => h) (Or.inl ⟨by rfl, ?_⟩) ?_ ?_
  rotate_left
  · intro w'
    go_simp
    with_reducible rfl
  rotate_left
  · simp only [Act.put, sA_, s0_, s1_, i64_w, i32_w]
    rfl
  refine pure_ (i := 21) (N := some 81) (v := ?_) (a' := ?_) (bl 30 4194303) rfl rfl (by kernel_rfl) (fun _ _ _ h => h) (Or.inl ⟨by rfl, ?_⟩) ?_ ?_
  rotate_left
  · intro w'
    go_simp
    with_reducible rfl
  rotate_left
  · simp only [Act.put, sA_, s0_, s1_, i64_w, i32_w]
    rfl
  refine pure_ (i := 22) (N := some 82) (v := ?_) (a' := ?_) (bl 30 8388607) rfl rfl (by kernel_rfl) (fun _ _ _ h => h) (Or.inl ⟨by rfl, ?_⟩) ?_ ?_
  rotate_left
  · intro w'
    go_simp
    with_reducible rfl
  rotate_left
  · simp only [Act.put, sA_, s0_, s1_, i64_w, i32_w]
    rfl
  refine pure_ (i := 23) (N := some 83) (v := ?_) (a' := ?_) (bl 30 16777215) rfl rfl (by kernel_rfl) (fun _ _ _ h => h) (Or.inl ⟨by rfl, ?_⟩) ?_ ?_
  rotate_left
  · intro w'
    go_simp
    with_reducible rfl
  rotate_left
  · simp only [Act.put, sA_, s0_, s1_, i64_w, i32_w]
    rfl
  refine take_ (i := 24) (N := some 84) (v := ?_) (a' := ?_) (bl 30 33554431) rfl rfl (by kernel_rfl) (fun _ _ _ h => h) (Or.inl ⟨by rfl, ?_⟩) hHeld ?_ ?_
  rotate_left
  · rintro w' ⟨s0, s1, s2, s3, s4, s5, s6, s7⟩
    go_simp
    with_reducible rfl
  rotate_left
  · simp only [Act.put, sA_, s0_, s1_, i64_w, i32_w]
    rfl
  refine pure_ (i := 25) (N := some 85) (v := ?_) (a' := ?_) (bl 30 67108863) rfl rfl (by kernel_rfl) (fun _ _ _ h => h) (Or.inl ⟨by rfl, ?_⟩) ?_ ?_
  rotate_left
  · intro w'
    go_simp
    with_reducible rfl
  rotate_left
  · simp only [Act.put, sA_, s0_, s1_, i64_w, i32_w]
    rfl
  refine take_ (i := 26) (N := some 86) (v := ?_) (a' := ?_) (bl 30 134217727) rfl rfl (by kernel_rfl) (fun _ _ _ h => h) (Or.inl ⟨by rfl, ?_⟩) hHeld ?_ ?_
  rotate_left
  · rintro w' ⟨s0, s1, s2, s3, s4, s5, s6, s7⟩
    go_simp
    with_reducible rfl
  rotate_left
  · simp only [Act.put, sA_, s0_, s1_, i64_w, i32_w]
    rfl
  refine one_ (i := 27) (N := some 87) (bl 30 268435455) rfl rfl (by kernel_rfl) (by decide) (fun K hK => ?_)
  refine goes_ Tryd.func31 (by kernel_rfl) rfl #[.agg #[.slice Ab0 nb cb0, .bool b.f1, .int .i64 b.f2]] (by rfl) rfl rfl (by simp only [List.map_toArray, List.map_cons, List.map_nil]; rfl) ?_
  with_reducible refine (HSb.out _ HB3.out).mono ?_
  rintro e w4 ⟨rfl, hb4⟩
  refine ⟨_, rfl, ?_⟩
  have HB4 := Aside0.mk (HB3.out.trans (hb4.mono HB3.out.size))
  refine hK.out _ _ ⟨(HB4.out.cell (World.block_lt_of_cell? W2 _ c1)).trans c1, (HB4.out.cell (World.block_lt_of_cell? W2 _ c2)).trans c2, (HB4.out.cell (World.block_lt_of_cell? W2 _ xa0)).trans xa0, (HB4.out.cell (World.block_lt_of_cell? W2 _ xa1)).trans xa1, (HB4.out.cell (World.block_lt_of_cell? W2 _ xa2)).trans xa2, (HB4.out.cell (World.block_lt_of_cell? W2 _ xb0)).trans xb0, (HB4.out.cell (World.block_lt_of_cell? W2 _ xb1)).trans xb1, (HB4.out.cell (World.block_lt_of_cell? W2 _ xb2)).trans xb2⟩ (fun hHeld => ?_)
  clear hK K
  refine norm_ (a' := ?_) ?_ ?_
  rotate_left
  · show Act.put _ (some 87) _ = _
    simp only [Act.put, sA_, s0_, s1_, i64_w, i32_w]
    rfl
  refine pure_ (i := 28) (N := some 88) (v := ?_) (a' := ?_) (bl 30 536870911) rfl rfl (by kernel_rfl) (fun _ _ _ h => h) (Or.inl ⟨by rfl, ?_⟩) ?_ ?_
  rotate_left
  · intro w'
    go_simp
    with_reducible rfl
  rotate_left
  · simp only [Act.put, sA_, s0_, s1_, i64_w, i32_w]
    rfl
  refine pure_ (i := 29) (N := some 89) (v := ?_) (a' := ?_) (bl 30 1073741823) rfl rfl (by kernel_rfl) (fun _ _ _ h => h) (Or.inl ⟨by rfl, ?_⟩) ?_ ?_
  rotate_left
  · intro w'
    go_simp
    with_reducible rfl
  rotate_left
  · simp only [Act.put, sA_, s0_, s1_, i64_w, i32_w]
    rfl
  refine done_ (by kernel_rfl) ?_
  go_wp2
  go_ret
  exact ⟨rfl, HBb.out.trans (HB4.out.mono HBb.out.size)⟩
set_option maxRecDepth 100000 in
set_option maxHeartbeats 8000000 in
theorem joins_on (ks : Nat) (s t : ByteArray) (a b : S62) (pa pb : Int) (W : World) (hGL : GL W) (hs : ¬ 490 < s.size) (ht : ¬ 490 < t.size) (hpa : pattern_Parse.f s = some ([a], 0, pa)) (hpb : pattern_Parse.f t = some ([b], 0, pb)) (hla : a.f0.length ≤ 1000000) (hlb : b.f0.length ≤ 1000000) (h : ¬ 100 < a.f0.length + b.f0.length) (h6 : ¬ shapeOf a.f0 a.f1 a.f2 = 6) (h7 : ¬ shapeOf b.f0 b.f1 b.f2 = 6) (hpc : pattern_Parse.f (s ++ (⟨#[59]⟩ : ByteArray) ++ t) = some ([a, b], 0, 0)) (hfa : tabardlaw13_sections.f 1100000 [a] = some [sj a]) (hfb : tabardlaw13_sections.f 1100000 [b] = some [sj b]) (hsm : tabardlaw13_same.f ks [a, b] ([sj a] ++ [sj b]) = some true) : Calls Tryd.prog 9 #[.string s, .string t] W (JoinsEnd W) := by
  have HPC := Aside0.mk hpc
  have HFA := Aside0.mk hfa
  have HFB := Aside0.mk hfb
  have HSM := Aside0.mk hsm
  have hsz1 : s.size ≤ 490 := by omega
  have hsz2 : t.size ≤ 490 := by omega
  clear hpc hfa hfb hsm
  have HG := Aside0.mk hGL
  have HB0 := Aside0.mk (Below.refl W.heap.size W)
  have HPa := Aside0.mk hpa
  have HPb := Aside0.mk hpb
  have hs1 : decide (490 < (s.size : Int)) = false := decide_eq_false (by omega)
  have ht1 : decide (490 < (t.size : Int)) = false := decide_eq_false (by omega)
  have HLA := Aside0.mk hla
  have HLB := Aside0.mk hlb
  clear hGL hpa hpb hs ht
  go_enter Tryd.func9, Tryd.ntmps9
  go_wp2_with (fail)
  (with_reducible refine (tabardlaw13_shown.calls true _ (HG.out.below HB0.out) rfl).mono ?_)
  rintro e w1 ⟨rfl, hb⟩
  have HB1 := Aside0.mk (HB0.out.trans (hb.mono HB0.out.size))
  clear hb
  go_wp2_with (fail)
  (with_reducible refine (pattern_Parse.calls s [a] 0 pa _ (HG.out.below HB1.out) HPa.out).mono ?_)
  rintro e wa ⟨va, rfl, hSa, hb⟩
  obtain ⟨Aa, ca, rfl, hca, hCa⟩ := Kd.S_reads hSa
  rw [show [a].length = 1 from rfl] at hca hCa ⊢
  have HBa := Aside0.mk (below_alloc (HB1.out.trans (hb.mono HB1.out.size)) (.cells #[.slice Aa 1 ca] 55 (0, 0)))
  have HCa := Aside0.mk (Kd.C_below hCa (below_alloc (Below.refl wa.heap.size wa) (.cells #[.slice Aa 1 ca] 55 (0, 0))))
  clear hSa hb hCa
  go_wp2_with (fail)
  (with_reducible refine (pattern_Parse.calls t [b] 0 pb _ (HG.out.below HBa.out) HPb.out).mono ?_)
  rintro e wb ⟨vb, rfl, hSb, hb⟩
  obtain ⟨Ab, cb, rfl, hcb, hCb⟩ := Kd.S_reads hSb
  rw [show [b].length = 1 from rfl] at hcb hCb ⊢
  have HBb := Aside0.mk (below_alloc (HBa.out.trans (hb.mono HBa.out.size)) (.cells #[.slice Ab 1 cb] 55 (0, 0)))
  have e1 : wb.heap[wa.heap.size]? = some (.cells #[.slice Aa 1 ca] 55 (0, 0)) := (hb.block wa.heap.size (by rw [show (wa.alloc (.cells #[.slice Aa 1 ca] 55 (0, 0))).heap.size = wa.heap.size + 1 from Array.size_push _]; omega)).trans Array.getElem?_push_size
  have c1 : (wb.alloc (.cells #[.slice Ab 1 cb] 55 (0, 0))).cell? ⟨wa.heap.size, 0, none⟩ = some (.slice Aa 1 ca) := cel_alloc _ (blk_cell e1 0)
  have c2 : (wb.alloc (.cells #[.slice Ab 1 cb] 55 (0, 0))).cell? ⟨wb.heap.size, 0, none⟩ = some (.slice Ab 1 cb) := (blk_cell (heap_alloc_new wb (.cells #[.slice Ab 1 cb] 55 (0, 0))) 0).trans rfl
  have hCa2 := Kd.C_below HCa.out (below_alloc hb (.cells #[.slice Ab 1 cb] 55 (0, 0)))
  have hCb2 := Kd.C_below hCb (below_alloc (Below.refl wb.heap.size wb) (.cells #[.slice Ab 1 cb] 55 (0, 0)))
  obtain ⟨ada, Aa0, ca0, rfl, xa0, xa1, xa2, ia0, ga0⟩ := at_T62 hCa2 0 (by omega) (by omega)
  obtain ⟨adb, Ab0, cb0, rfl, xb0, xb1, xb2, ib0, gb0⟩ := at_T62 hCb2 0 (by omega) (by omega)
  have hz : ∀ ad : Addr, ad.add ((0 : Int).toNat * 3) = ad := fun ad => by simp [Addr.add]
  rw [hz] at xa0 xa1 xa2 xb0 xb1 xb2
  rw [show rd_T62 [a] 0 = a from rfl] at xa0 xa1 xa2 ia0 ga0
  rw [show rd_T62 [b] 0 = b from rfl] at xb0 xb1 xb2 ib0 gb0
  clear hSb hb hCb e1 HCa hz
  go_upto_region 6 with (fail)
  generalize wb.alloc (.cells #[.slice (some adb) 1 cb] 55 (0, 0)) = W2 at *
  have HCA := Aside0.mk hCa2
  have HCB := Aside0.mk hCb2
  have HSa := Aside0.mk (fun w (hW : Below W2.heap.size W2 w) => pattern_Shape.calls Aa0 ca0 a.f0 a.f1 a.f2 (shapeOf a.f0 a.f1 a.f2) w (HG.out.below (HBb.out.trans (hW.mono HBb.out.size))) (Kd.C_below ga0 hW) ia0 (by unfold pattern_Shape.f; rw [if_pos HLA.out]))
  have HSb := Aside0.mk (fun w (hW : Below W2.heap.size W2 w) => pattern_Shape.calls Ab0 cb0 b.f0 b.f1 b.f2 (shapeOf b.f0 b.f1 b.f2) w (HG.out.below (HBb.out.trans (hW.mono HBb.out.size))) (Kd.C_below gb0 hW) ib0 (by unfold pattern_Shape.f; rw [if_pos HLB.out]))
  have hla2 : a.f0.length ≤ 1000000 := HLA.out
  have hlb2 : b.f0.length ≤ 1000000 := HLB.out
  have i01 : (0 : Int) < 1 := by decide
  clear hCa2 hCb2 ga0 gb0 hla hlb
  generalize a.f0.length = na at *
  generalize b.f0.length = nb at *
  generalize hka : shapeOf a.f0 a.f1 a.f2 = ka at *
  generalize hkb : shapeOf b.f0 b.f1 b.f2 = kb at *
  have HKA := Aside0.mk hka
  have HKB := Aside0.mk hkb
  clear hka hkb
  have sw : wrap64 ((na : Int) + (nb : Int)) = (na : Int) + (nb : Int) := by unfold wrap64; omega
  have q1 : decide (100 < wrap64 ((na : Int) + (nb : Int))) = false := decide_eq_false (by rw [sw]; omega)
  have q2 : decide (100 < (na : Int) + (nb : Int)) = false := decide_eq_false (by omega)
  clear sw h
  have k1 : (ka == 6) = false := beq_eq_false_iff_ne.mpr h6
  have k2 : (kb == 6) = false := beq_eq_false_iff_ne.mpr h7
  clear h6 h7
  go_wp2
  refine start_ (n := 30) (S := fun w' => w'.cell? ⟨wa.heap.size, 0, none⟩ = some (.slice (some ada) 1 ca) ∧ w'.cell? ⟨wb.heap.size, 0, none⟩ = some (.slice (some adb) 1 cb) ∧ w'.cell? ada = some (.slice Aa0 na ca0) ∧ w'.cell? ⟨ada.block, ada.off + 1, none⟩ = some (.bool a.f1) ∧ w'.cell? ⟨ada.block, ada.off + 2, none⟩ = some (.int .i64 a.f2) ∧ w'.cell? adb = some (.slice Ab0 nb cb0) ∧ w'.cell? ⟨adb.block, adb.off + 1, none⟩ = some (.bool b.f1) ∧ w'.cell? ⟨adb.block, adb.off + 2, none⟩ = some (.int .i64 b.f2)) (ds := []) (bl 30 0) (by kernel_rfl) rfl (by kernel_rfl) ⟨c1, c2, xa0, xa1, xa2, xb0, xb1, xb2⟩ (fun hHeld => ?_)
  refine pure_ (i := 0) (N := some 60) (v := ?_) (a' := ?_) (bl 30 1) rfl rfl (by kernel_rfl) (fun _ _ _ h => h) (Or.inl ⟨by rfl, ?_⟩) ?_ ?_
  rotate_left
  · intro w'
    go_simp
    with_reducible rfl
  rotate_left
  · simp only [Act.put, sA_, s0_, s1_, i64_w, i32_w]
    rfl
  refine pure_ (i := 6) (N := some 66) (v := ?_) (a' := ?_) (bl 30 65) rfl rfl (by kernel_rfl) (fun _ _ _ h => h) (Or.inl ⟨by rfl, ?_⟩) ?_ ?_
  rotate_left
  · intro w'
    go_simp
    with_reducible rfl
  rotate_left
  · simp only [Act.put, sA_, s0_, s1_, i64_w, i32_w]
    rfl
  refine take_ (i := 1) (N := some 61) (v := ?_) (a' := ?_) (bl 30 67) rfl rfl (by kernel_rfl) (fun _ _ _ h => h) (Or.inl ⟨by rfl, ?_⟩) hHeld ?_ ?_
  rotate_left
  · rintro w' ⟨s0, s1, s2, s3, s4, s5, s6, s7⟩
    go_simp
    with_reducible rfl
  rotate_left
  · simp only [Act.put, sA_, s0_, s1_, i64_w, i32_w]
    rfl
  refine pure_ (i := 2) (N := some 62) (v := ?_) (a' := ?_) (bl 30 71) rfl rfl (by kernel_rfl) (fun _ _ _ h => h) (Or.inl ⟨by rfl, ?_⟩) ?_ ?_
  rotate_left
  · intro w'
    go_simp
    with_reducible rfl
  rotate_left
  · simp only [Act.put, sA_, s0_, s1_, i64_w, i32_w]
    rfl
  refine pure_ (i := 3) (N := some 63) (v := ?_) (a' := ?_) (bl 30 79) rfl rfl (by kernel_rfl) (fun _ _ _ h => h) (Or.inl ⟨by rfl, ?_⟩) ?_ ?_
  rotate_left
  · intro w'
    go_simp
    with_reducible rfl
  rotate_left
  · simp only [Act.put, sA_, s0_, s1_, i64_w, i32_w]
    rfl
  refine take_ (i := 4) (N := some 64) (v := ?_) (a' := ?_) (bl 30 95) rfl rfl (by kernel_rfl) (fun _ _ _ h => h) (Or.inl ⟨by rfl, ?_⟩) hHeld ?_ ?_
  rotate_left
  · rintro w' ⟨s0, s1, s2, s3, s4, s5, s6, s7⟩
    go_simp
    with_reducible rfl
  rotate_left
  · simp only [Act.put, sA_, s0_, s1_, i64_w, i32_w]
    rfl
  refine pure_ (i := 5) (N := some 65) (v := ?_) (a' := ?_) (bl 30 127) rfl rfl (by kernel_rfl) (fun _ _ _ h => h) (Or.inl ⟨by rfl, ?_⟩) ?_ ?_
  rotate_left
  · intro w'
    go_simp
    with_reducible rfl
  rotate_left
  · simp only [Act.put, sA_, s0_, s1_, i64_w, i32_w]
    rfl
  refine take_ (i := 7) (N := some 67) (v := ?_) (a' := ?_) (bl 30 255) rfl rfl (by kernel_rfl) (fun _ _ _ h => h) (Or.inl ⟨by rfl, ?_⟩) hHeld ?_ ?_
  rotate_left
  · rintro w' ⟨s0, s1, s2, s3, s4, s5, s6, s7⟩
    go_simp
    with_reducible rfl
  rotate_left
  · simp only [Act.put, sA_, s0_, s1_, i64_w, i32_w]
    rfl
  refine pure_ (i := 8) (N := some 68) (v := ?_) (a' := ?_) (bl 30 511) rfl rfl (by kernel_rfl) (fun _ _ _ h => h) (Or.inl ⟨by rfl, ?_⟩) ?_ ?_
  rotate_left
  · intro w'
    go_simp
    with_reducible rfl
  rotate_left
  · simp only [Act.put, sA_, s0_, s1_, i64_w, i32_w]
    rfl
  refine pure_ (i := 9) (N := some 69) (v := ?_) (a' := ?_) (bl 30 1023) rfl rfl (by kernel_rfl) (fun _ _ _ h => h) (Or.inl ⟨by rfl, ?_⟩) ?_ ?_
  rotate_left
  · intro w'
    go_simp
    with_reducible rfl
  rotate_left
  · simp only [Act.put, sA_, s0_, s1_, i64_w, i32_w]
    rfl
  refine take_ (i := 10) (N := some 70) (v := ?_) (a' := ?_) (bl 30 2047) rfl rfl (by kernel_rfl) (fun _ _ _ h => h) (Or.inl ⟨by rfl, ?_⟩) hHeld ?_ ?_
  rotate_left
  · rintro w' ⟨s0, s1, s2, s3, s4, s5, s6, s7⟩
    go_simp
    with_reducible rfl
  rotate_left
  · simp only [Act.put, sA_, s0_, s1_, i64_w, i32_w]
    rfl
  refine pure_ (i := 11) (N := some 71) (v := ?_) (a' := ?_) (bl 30 4095) rfl rfl (by kernel_rfl) (fun _ _ _ h => h) (Or.inl ⟨by rfl, ?_⟩) ?_ ?_
  rotate_left
  · intro w'
    go_simp
    with_reducible rfl
  rotate_left
  · simp only [Act.put, sA_, s0_, s1_, i64_w, i32_w]
    rfl
  refine pure_ (i := 12) (N := some 72) (v := ?_) (a' := ?_) (bl 30 8191) rfl rfl (by kernel_rfl) (fun _ _ _ h => h) (Or.inl ⟨by rfl, ?_⟩) ?_ ?_
  rotate_left
  · intro w'
    go_simp
    with_reducible rfl
  rotate_left
  · simp only [Act.put, sA_, s0_, s1_, i64_w, i32_w]
    rfl
  refine pure_ (i := 13) (N := some 73) (v := ?_) (a' := ?_) (bl 30 16383) rfl rfl (by kernel_rfl) (fun _ _ _ h => h) (Or.inl ⟨by rfl, ?_⟩) ?_ ?_
  rotate_left
  · intro w'
    go_simp
    with_reducible rfl
  rotate_left
  · simp only [Act.put, sA_, s0_, s1_, i64_w, i32_w]
    rfl
  refine pure_ (i := 14) (N := some 74) (v := ?_) (a' := ?_) (bl 30 32767) rfl rfl (by kernel_rfl) (fun _ _ _ h => h) (Or.inl ⟨by rfl, ?_⟩) ?_ ?_
  rotate_left
  · intro w'
    go_simp
    with_reducible rfl
  rotate_left
  · simp only [Act.put, sA_, s0_, s1_, i64_w, i32_w]
    rfl
  refine pure_ (i := 15) (N := some 75) (v := ?_) (a' := ?_) (bl 30 65535) rfl rfl (by kernel_rfl) (fun _ _ _ h => h) (Or.inl ⟨by rfl, ?_⟩) ?_ ?_
  rotate_left
  · intro w'
    go_simp
    with_reducible rfl
  rotate_left
  · simp only [Act.put, sA_, s0_, s1_, i64_w, i32_w]
    rfl
  refine take_ (i := 16) (N := some 76) (v := ?_) (a' := ?_) (bl 30 131071) rfl rfl (by kernel_rfl) (fun _ _ _ h => h) (Or.inl ⟨by rfl, ?_⟩) hHeld ?_ ?_
  rotate_left
  · rintro w' ⟨s0, s1, s2, s3, s4, s5, s6, s7⟩
    go_simp
    with_reducible rfl
  rotate_left
  · simp only [Act.put, sA_, s0_, s1_, i64_w, i32_w]
    rfl
  refine pure_ (i := 17) (N := some 77) (v := ?_) (a' := ?_) (bl 30 262143) rfl rfl (by kernel_rfl) (fun _ _ _ h => h) (Or.inl ⟨by rfl, ?_⟩) ?_ ?_
  rotate_left
  · intro w'
    go_simp
    with_reducible rfl
  rotate_left
  · simp only [Act.put, sA_, s0_, s1_, i64_w, i32_w]
    rfl
  refine take_ (i := 18) (N := some 78) (v := ?_) (a' := ?_) (bl 30 524287) rfl rfl (by kernel_rfl) (fun _ _ _ h => h) (Or.inl ⟨by rfl, ?_⟩) hHeld ?_ ?_
  rotate_left
  · rintro w' ⟨s0, s1, s2, s3, s4, s5, s6, s7⟩
    go_simp
    with_reducible rfl
  rotate_left
  · simp only [Act.put, sA_, s0_, s1_, i64_w, i32_w]
    rfl
  refine one_ (i := 19) (N := some 79) (bl 30 1048575) rfl rfl (by kernel_rfl) (by decide) (fun K hK => ?_)
  refine goes_ Tryd.func31 (by kernel_rfl) rfl #[.agg #[.slice Aa0 na ca0, .bool a.f1, .int .i64 a.f2]] (by rfl) rfl rfl (by simp only [List.map_toArray, List.map_cons, List.map_nil]; rfl) ?_
  with_reducible refine (HSa.out _ (below_drew (Below.refl _ _))).mono ?_
  rintro e w3 ⟨rfl, hb3⟩
  refine ⟨_, rfl, ?_⟩
  have HB3 := Aside0.mk ((below_drew (Below.refl W2.heap.size W2)).trans hb3)
  refine hK.out _ _ ⟨(HB3.out.cell (World.block_lt_of_cell? W2 _ c1)).trans c1, (HB3.out.cell (World.block_lt_of_cell? W2 _ c2)).trans c2, (HB3.out.cell (World.block_lt_of_cell? W2 _ xa0)).trans xa0, (HB3.out.cell (World.block_lt_of_cell? W2 _ xa1)).trans xa1, (HB3.out.cell (World.block_lt_of_cell? W2 _ xa2)).trans xa2, (HB3.out.cell (World.block_lt_of_cell? W2 _ xb0)).trans xb0, (HB3.out.cell (World.block_lt_of_cell? W2 _ xb1)).trans xb1, (HB3.out.cell (World.block_lt_of_cell? W2 _ xb2)).trans xb2⟩ (fun hHeld => ?_)
  clear hK K
  refine norm_ (a' := ?_) ?_ ?_
  rotate_left
  · show Act.put _ (some 79) _ = _
    simp only [Act.put, sA_, s0_, s1_, i64_w, i32_w]
    rfl
  refine pure_ (i := 20) (N := some 80) (v := ?_) (a' := ?_) (bl 30 2097151) rfl rfl (by kernel_rfl) (fun _ _ _ h => h) (Or.inl ⟨by rfl, ?_⟩) ?_ ?_
  rotate_left
  · intro w'
    go_simp
    with_reducible rfl
  rotate_left
  · simp only [Act.put, sA_, s0_, s1_, i64_w, i32_w]
    rfl
  refine pure_ (i := 21) (N := some 81) (v := ?_) (a' := ?_) (bl 30 4194303) rfl rfl (by kernel_rfl) (fun _ _ _ h => h) (Or.inl ⟨by rfl, ?_⟩) ?_ ?_
  rotate_left
  · intro w'
    go_simp
    with_reducible rfl
  rotate_left
  · simp only [Act.put, sA_, s0_, s1_, i64_w, i32_w]
    rfl
  refine pure_ (i := 22) (N := some 82) (v := ?_) (a' := ?_) (bl 30 8388607) rfl rfl (by kernel_rfl) (fun _ _ _ h => h) (Or.inl ⟨by rfl, ?_⟩) ?_ ?_
  rotate_left
  · intro w'
    go_simp
    with_reducible rfl
  rotate_left
  · simp only [Act.put, sA_, s0_, s1_, i64_w, i32_w]
    rfl
  refine pure_ (i := 23) (N := some 83) (v := ?_) (a' := ?_) (bl 30 16777215) rfl rfl (by kernel_rfl) (fun _ _ _ h => h) (Or.inl ⟨by rfl, ?_⟩) ?_ ?_
  rotate_left
  · intro w'
    go_simp
    with_reducible rfl
  rotate_left
  · simp only [Act.put, sA_, s0_, s1_, i64_w, i32_w]
    rfl
  refine take_ (i := 24) (N := some 84) (v := ?_) (a' := ?_) (bl 30 33554431) rfl rfl (by kernel_rfl) (fun _ _ _ h => h) (Or.inl ⟨by rfl, ?_⟩) hHeld ?_ ?_
  rotate_left
  · rintro w' ⟨s0, s1, s2, s3, s4, s5, s6, s7⟩
    go_simp
    with_reducible rfl
  rotate_left
  · simp only [Act.put, sA_, s0_, s1_, i64_w, i32_w]
    rfl
  refine pure_ (i := 25) (N := some 85) (v := ?_) (a' := ?_) (bl 30 67108863) rfl rfl (by kernel_rfl) (fun _ _ _ h => h) (Or.inl ⟨by rfl, ?_⟩) ?_ ?_
  rotate_left
  · intro w'
    go_simp
    with_reducible rfl
  rotate_left
  · simp only [Act.put, sA_, s0_, s1_, i64_w, i32_w]
    rfl
  refine take_ (i := 26) (N := some 86) (v := ?_) (a' := ?_) (bl 30 134217727) rfl rfl (by kernel_rfl) (fun _ _ _ h => h) (Or.inl ⟨by rfl, ?_⟩) hHeld ?_ ?_
  rotate_left
  · rintro w' ⟨s0, s1, s2, s3, s4, s5, s6, s7⟩
    go_simp
    with_reducible rfl
  rotate_left
  · simp only [Act.put, sA_, s0_, s1_, i64_w, i32_w]
    rfl
  refine one_ (i := 27) (N := some 87) (bl 30 268435455) rfl rfl (by kernel_rfl) (by decide) (fun K hK => ?_)
  refine goes_ Tryd.func31 (by kernel_rfl) rfl #[.agg #[.slice Ab0 nb cb0, .bool b.f1, .int .i64 b.f2]] (by rfl) rfl rfl (by simp only [List.map_toArray, List.map_cons, List.map_nil]; rfl) ?_
  with_reducible refine (HSb.out _ HB3.out).mono ?_
  rintro e w4 ⟨rfl, hb4⟩
  refine ⟨_, rfl, ?_⟩
  have HB4 := Aside0.mk (HB3.out.trans (hb4.mono HB3.out.size))
  refine hK.out _ _ ⟨(HB4.out.cell (World.block_lt_of_cell? W2 _ c1)).trans c1, (HB4.out.cell (World.block_lt_of_cell? W2 _ c2)).trans c2, (HB4.out.cell (World.block_lt_of_cell? W2 _ xa0)).trans xa0, (HB4.out.cell (World.block_lt_of_cell? W2 _ xa1)).trans xa1, (HB4.out.cell (World.block_lt_of_cell? W2 _ xa2)).trans xa2, (HB4.out.cell (World.block_lt_of_cell? W2 _ xb0)).trans xb0, (HB4.out.cell (World.block_lt_of_cell? W2 _ xb1)).trans xb1, (HB4.out.cell (World.block_lt_of_cell? W2 _ xb2)).trans xb2⟩ (fun hHeld => ?_)
  clear hK K
  refine norm_ (a' := ?_) ?_ ?_
  rotate_left
  · show Act.put _ (some 87) _ = _
    simp only [Act.put, sA_, s0_, s1_, i64_w, i32_w]
    rfl
  refine pure_ (i := 28) (N := some 88) (v := ?_) (a' := ?_) (bl 30 536870911) rfl rfl (by kernel_rfl) (fun _ _ _ h => h) (Or.inl ⟨by rfl, ?_⟩) ?_ ?_
  rotate_left
  · intro w'
    go_simp
    with_reducible rfl
  rotate_left
  · simp only [Act.put, sA_, s0_, s1_, i64_w, i32_w]
    rfl
  refine pure_ (i := 29) (N := some 89) (v := ?_) (a' := ?_) (bl 30 1073741823) rfl rfl (by kernel_rfl) (fun _ _ _ h => h) (Or.inl ⟨by rfl, ?_⟩) ?_ ?_
  rotate_left
  · intro w'
    go_simp
    with_reducible rfl
  rotate_left
  · simp only [Act.put, sA_, s0_, s1_, i64_w, i32_w]
    rfl
  refine done_ (by kernel_rfl) ?_
  have HB4W := Aside0.mk (HBb.out.trans (HB4.out.mono HBb.out.size))
  have y1 := (HB4.out.cell (World.block_lt_of_cell? W2 _ c1)).trans c1
  have y2 := (HB4.out.cell (World.block_lt_of_cell? W2 _ c2)).trans c2
  have HCA2 := Aside0.mk (Kd.C_below HCA.out HB4.out)
  have HCB2 := Aside0.mk (Kd.C_below HCB.out HB4.out)
  have z1 : s.size + (⟨#[59]⟩ : ByteArray).size ≤ 9223372036854775807 := by show s.size + 1 ≤ _; omega
  have z2 : (s ++ (⟨#[59]⟩ : ByteArray)).size + t.size ≤ 9223372036854775807 := by rw [ByteArray.size_append]; show s.size + 1 + t.size ≤ _; omega
  have z3 : s.size + 1 ≤ 9223372036854775807 := by omega
  have z4 : s.size + 1 + t.size ≤ 9223372036854775807 := by omega
  clear c1 c2 xa0 xa1 xa2 xb0 xb1 xb2 HCA HCB HSa HSb k1 k2 q1 q2 HB3
  go_wp2_with (fail)
  (with_reducible refine (pattern_Parse.calls (s ++ (⟨#[59]⟩ : ByteArray) ++ t) [a, b] 0 0 _ (HG.out.below HB4W.out) HPC.out).mono ?_)
  rintro e wc ⟨vc, rfl, hSc, hb⟩
  obtain ⟨Ac, cc, rfl, hcc, hCc⟩ := Kd.S_reads hSc
  rw [show [a, b].length = 2 from rfl] at hcc hCc ⊢
  have bn := below_alloc hb (.cells #[.slice Ac 2 cc] 55 (0, 0))
  have HBc := Aside0.mk (below_alloc (HB4W.out.trans (hb.mono HB4W.out.size)) (.cells #[.slice Ac 2 cc] 55 (0, 0)))
  have d0 : (wc.alloc (.cells #[.slice Ac 2 cc] 55 (0, 0))).cell? ⟨wc.heap.size, 0, none⟩ = some (.slice Ac 2 cc) := (blk_cell (heap_alloc_new wc (.cells #[.slice Ac 2 cc] 55 (0, 0))) 0).trans rfl
  have d1 := (bn.cell (World.block_lt_of_cell? w4 _ y1)).trans y1
  have d2 := (bn.cell (World.block_lt_of_cell? w4 _ y2)).trans y2
  have HCA3 := Aside0.mk (Kd.C_below HCA2.out bn)
  have HCB3 := Aside0.mk (Kd.C_below HCB2.out bn)
  have HCC := Aside0.mk (Kd.C_below hCc (below_alloc (Below.refl wc.heap.size wc) (.cells #[.slice Ac 2 cc] 55 (0, 0))))
  clear hSc hb hCc bn y1 y2 z1 z2 z3 z4 HCA2 HCB2
  go_upto_region 11 with (fail)
  generalize wc.alloc (.cells #[.slice Ac 2 cc] 55 (0, 0)) = WC at *
  have HS1 : Aside0 (∀ w, Below WC.heap.size WC w → Calls Tryd.prog 30 #[.agg #[.slice (some ada) 1 ca]] w fun e w' => ∃ v0_ : Value, e = .returned v0_ ∧ Kd.S k66 66 w' w.heap.size (fun _ => True) v0_ [sj a] ∧ Below w.heap.size w w') := Aside0.mk (fun w hW => tabardlaw13_sections.calls 1100000 (some ada) ca [a] [sj a] w (Kd.C_below HCA3.out hW) hca HFA.out)
  have HS2 : Aside0 (∀ w, Below WC.heap.size WC w → Calls Tryd.prog 30 #[.agg #[.slice (some adb) 1 cb]] w fun e w' => ∃ v0_ : Value, e = .returned v0_ ∧ Kd.S k66 66 w' w.heap.size (fun _ => True) v0_ [sj b] ∧ Below w.heap.size w w') := Aside0.mk (fun w hW => tabardlaw13_sections.calls 1100000 (some adb) cb [b] [sj b] w (Kd.C_below HCB3.out hW) hcb HFB.out)
  have HS3 : Aside0 (∀ w, Below WC.heap.size WC w → ∀ (A7 : Option Addr) (c7 : Nat), Kd.C k66 w A7 ([sj a] ++ [sj b]).length ([sj a] ++ [sj b]) → ([sj a] ++ [sj b]).length ≤ c7 → Calls Tryd.prog 38 #[.agg #[.slice Ac 2 cc], .slice A7 ([sj a] ++ [sj b]).length c7] w fun e w' => e = .returned (.bool true) ∧ Below w.heap.size w w') := Aside0.mk (fun w hW A7 c7 h1 h2 => tabardlaw13_same.calls ks Ac cc [a, b] A7 c7 ([sj a] ++ [sj b]) true w (Kd.C_below HCC.out hW) hcc h1 h2 HSM.out)
  refine start_ (n := 8) (S := fun w' => w'.cell? ⟨wc.heap.size, 0, none⟩ = some (.slice Ac 2 cc) ∧ w'.cell? ⟨wa.heap.size, 0, none⟩ = some (.slice (some ada) 1 ca) ∧ w'.cell? ⟨wb.heap.size, 0, none⟩ = some (.slice (some adb) 1 cb)) (ds := []) #[false, false, false, false, false, false, false, false] (by kernel_rfl) rfl rfl ⟨d0, d1, d2⟩ (fun hHeld => ?_); refine with_tabW joins.tab11 joins.bits11 (fun HT_ HW_ => ?_)
  refine take_ (i := 0) (N := some 99) (v := ?_) (a' := ?_) #[true, false, false, false, false, false, false, false] rfl rfl (take_ofW HT_.out HW_.out (by kernel_rfl)) (fun _ _ _ h => h) (Or.inl ⟨by rfl, ?_⟩) hHeld ?_ ?_
  rotate_left
  · rintro w' ⟨s0, s1, s2⟩
    go_simp
    with_reducible rfl
  rotate_left
  · simp only [Act.put, List.setIfInBounds_toArray, List.set_cons_zero, List.set_cons_succ, i64_w, i32_w]
    rfl
  refine take_ (i := 1) (N := some 100) (v := ?_) (a' := ?_) #[true, true, false, false, false, false, false, false] rfl rfl (take_ofW HT_.out HW_.out (by kernel_rfl)) (fun _ _ _ h => h) (Or.inl ⟨by rfl, ?_⟩) hHeld ?_ ?_
  rotate_left
  · rintro w' ⟨s0, s1, s2⟩
    go_simp
    with_reducible rfl
  rotate_left
  · simp only [Act.put, List.setIfInBounds_toArray, List.set_cons_zero, List.set_cons_succ, i64_w, i32_w]
    rfl
  refine take_ (i := 3) (N := some 102) (v := ?_) (a' := ?_) #[true, true, false, true, false, false, false, false] rfl rfl (take_ofW HT_.out HW_.out (by kernel_rfl)) (fun _ _ _ h => h) (Or.inl ⟨by rfl, ?_⟩) hHeld ?_ ?_
  rotate_left
  · rintro w' ⟨s0, s1, s2⟩
    go_simp
    with_reducible rfl
  rotate_left
  · simp only [Act.put, List.setIfInBounds_toArray, List.set_cons_zero, List.set_cons_succ, i64_w, i32_w]
    rfl
  refine one_ (i := 2) (N := some 101) #[true, true, true, true, false, false, false, false] rfl rfl (one_of HT_.out (by kernel_rfl)) (by decide) (fun K hK => ?_)
  refine goes_ Tryd.func30 (by kernel_rfl) rfl #[.agg #[.slice (some ada) 1 ca]] (by rfl) rfl rfl (by simp only [List.map_toArray, List.map_cons, List.map_nil]; rfl) ?_
  with_reducible refine (HS1.out _ (below_drew (Below.refl _ _))).mono ?_
  rintro e w5 ⟨v5, rfl, ho5, hb5⟩
  refine ⟨_, rfl, ?_⟩
  have HB5 := Aside0.mk ((below_drew (Below.refl WC.heap.size WC)).trans hb5)
  have HN5 := Aside0.mk (Kd.N_mono (ok' := fun _ => True) (Kd.S_N ho5) (fun _ _ => trivial))
  clear ho5 hb5
  refine hK.out _ _ ⟨(HB5.out.cell (World.block_lt_of_cell? WC _ d0)).trans d0, (HB5.out.cell (World.block_lt_of_cell? WC _ d1)).trans d1, (HB5.out.cell (World.block_lt_of_cell? WC _ d2)).trans d2⟩ (fun hHeld => ?_)
  clear hK K
  refine norm_ (a' := ?_) ?_ ?_
  rotate_left
  · show Act.put _ (some 101) _ = _
    simp only [Act.put, List.setIfInBounds_toArray, List.set_cons_zero, List.set_cons_succ, i64_w, i32_w]
    rfl
  refine one_ (i := 4) (N := some 103) #[true, true, true, true, true, false, false, false] rfl rfl (one_of HT_.out (by kernel_rfl)) (by decide) (fun K hK => ?_)
  refine goes_ Tryd.func30 (by kernel_rfl) rfl #[.agg #[.slice (some adb) 1 cb]] (by rfl) rfl rfl (by simp only [List.map_toArray, List.map_cons, List.map_nil]; rfl) ?_
  with_reducible refine (HS2.out _ HB5.out).mono ?_
  rintro e w6 ⟨v6, rfl, ho6, hb6⟩
  refine ⟨_, rfl, ?_⟩
  have HB6 := Aside0.mk (HB5.out.trans (hb6.mono HB5.out.size))
  have HN6 := Aside0.mk (Kd.N_below HN5.out hb6)
  have HM6 := Aside0.mk (Kd.N_mono (ok' := fun k_ => some k_ ≠ v5.ownBlock) (Kd.S_N (Kd.S_bound ho6)) (fun k_ hk_ => Kd.fresh' (Kd.N_lt HN5.out) k_ hk_.2.1))
  obtain ⟨A6, c6, e6⟩ := Kd.N_slice HM6.out
  subst e6
  clear ho6 hb6
  refine hK.out _ _ ⟨(HB6.out.cell (World.block_lt_of_cell? WC _ d0)).trans d0, (HB6.out.cell (World.block_lt_of_cell? WC _ d1)).trans d1, (HB6.out.cell (World.block_lt_of_cell? WC _ d2)).trans d2⟩ (fun hHeld => ?_)
  clear hK K
  refine norm_ (a' := ?_) ?_ ?_
  rotate_left
  · show Act.put _ (some 103) _ = _
    simp only [Act.put, List.setIfInBounds_toArray, List.set_cons_zero, List.set_cons_succ, i64_w, i32_w]
    rfl
  refine one_ (i := 5) (N := some 104) #[true, true, true, true, true, true, false, false] rfl rfl (one_of HT_.out (by kernel_rfl)) (by decide) (fun K hK => ?_)
  refine Kd.N_append_rows_step k66 (w0 := WC) WC.heap.size (by rfl) (.tmp 101) (.tmp 103) 57 66 (.agg #[(.slice none 0 0), (.bool false), (.int .i64 0)]) 40 rfl Tryd.underlying57 info66 rfl (by decide) (by omega) v5 [sj a] [sj b] A6 1 c6 (fun _ => True) (fun k_ => some k_ ≠ v5.ownBlock) rfl rfl HN6.out (Kd.N_F HM6.out) (fun _ hk => ⟨trivial, hk⟩) (fun _ _ => trivial) HB6.out HB6.out.size (by show (1 + 1) * 40 ≤ 140737488355328; decide) ?_
  intro v7 w7 ho7 hb7 hg7 hat7
  obtain ⟨A7, c7, e7⟩ := Kd.N_slice ho7
  subst e7
  have HB7 := Aside0.mk hb7
  have HN7 := Aside0.mk ho7
  clear ho7 hb7 hg7 hat7
  refine hK.out _ _ ⟨(HB7.out.cell (World.block_lt_of_cell? WC _ d0)).trans d0, (HB7.out.cell (World.block_lt_of_cell? WC _ d1)).trans d1, (HB7.out.cell (World.block_lt_of_cell? WC _ d2)).trans d2⟩ (fun hHeld => ?_)
  clear hK K
  refine norm_ (a' := ?_) ?_ ?_
  rotate_left
  · show Act.put _ (some 104) _ = _
    simp only [Act.put, List.setIfInBounds_toArray, List.set_cons_zero, List.set_cons_succ, i64_w, i32_w]
    rfl
  refine one_ (i := 6) (N := some 105) #[true, true, true, true, true, true, true, false] rfl rfl (one_of HT_.out (by kernel_rfl)) (by decide) (fun K hK => ?_)
  refine goes_ Tryd.func38 (by kernel_rfl) rfl #[.agg #[.slice Ac 2 cc], .slice A7 ([sj a] ++ [sj b]).length c7] (by rfl) rfl rfl (by simp only [List.map_toArray, List.map_cons, List.map_nil]; rfl) ?_
  with_reducible refine (HS3.out _ HB7.out A7 c7 (Kd.N_reads' HN7.out).2.2 (Kd.N_reads' HN7.out).2.1).mono ?_
  rintro e w8 ⟨rfl, hb8⟩
  refine ⟨_, rfl, ?_⟩
  have HB8 := Aside0.mk (HB7.out.trans (hb8.mono HB7.out.size))
  clear hb8
  refine hK.out _ _ ⟨(HB8.out.cell (World.block_lt_of_cell? WC _ d0)).trans d0, (HB8.out.cell (World.block_lt_of_cell? WC _ d1)).trans d1, (HB8.out.cell (World.block_lt_of_cell? WC _ d2)).trans d2⟩ (fun hHeld => ?_)
  clear hK K
  refine norm_ (a' := ?_) ?_ ?_
  rotate_left
  · show Act.put _ (some 105) _ = _
    simp only [Act.put, List.setIfInBounds_toArray, List.set_cons_zero, List.set_cons_succ, i64_w, i32_w]
    rfl
  refine pure_ (i := 7) (N := some 15) (v := ?_) (a' := ?_) #[true, true, true, true, true, true, true, true] rfl rfl (any_of HT_.out (by kernel_rfl)) (fun _ _ _ h => h) (Or.inl ⟨by rfl, ?_⟩) ?_ ?_
  rotate_left
  · intro w'
    go_simp
    with_reducible rfl
  rotate_left
  · simp only [Act.put, List.setIfInBounds_toArray, List.set_cons_zero, List.set_cons_succ, i64_w, i32_w]
    rfl
  refine done_ (done_of HT_.out (by kernel_rfl)) ?_
  go_wp2
  go_ret
  exact ⟨rfl, HBc.out.trans (HB8.out.mono HBc.out.size)⟩
end Go.Proofs.YtmbhjogohfcjgaaDoor.P
