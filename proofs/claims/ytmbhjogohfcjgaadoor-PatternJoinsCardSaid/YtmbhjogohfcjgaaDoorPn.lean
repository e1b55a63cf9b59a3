/- The chapter's examples, walked by hand: shown answers true. -/
import Derived.Test.YtmbhjogohfcjgaaDoorP13
import Derived.Test.YtmbhjogohfcjgaaDoorPq
namespace Go.Proofs.YtmbhjogohfcjgaaDoor.P
open Go.RowKit Go.Proofs.YtmbhjogohfcjgaaDoorW.PrintWords Go.Proofs.YtmbhjogohfcjgaaDoorW.PrintLast Go.Proofs.YtmbhjogohfcjgaaDoorW.PrintMore
set_option linter.unusedVariables false
set_option linter.unusedSimpArgs false
set_option maxHeartbeats 1000000 in
theorem wrong_true (s : ByteArray) (at_ : Int) (W : World) (hGL : GL W) (hp : pattern_Parse.f s = some ([], 12, at_)) :
  Calls Tryd.prog 49 #[.string s, .int .i64 at_] W fun e w' => e = .returned (.bool true) ∧ Below W.heap.size W w' := by
 have HP := Aside0.mk (pattern_Parse.calls s [] 12 at_ W hGL hp)
 clear hGL hp
 go_enter Tryd.func49, Tryd.ntmps49
 go_wp2_with (fail)
 (with_reducible refine HP.out.mono ?_)
 rintro e w1 ⟨v0, rfl, hS, hb⟩
 obtain ⟨A, c, rfl, hAc, hC⟩ := Kd.S_reads hS
 have HB := Aside0.mk hb
 clear hS hC hb HP
 go_wp2
 go_ret
 exact ⟨rfl, below_alloc HB.out _⟩
set_option maxHeartbeats 1000000 in
theorem read_true (s : ByteArray) (l : List S62) (sh : Int) (W : World) (hGL : GL W) (hp : pattern_Parse.f s = some (l, 0, 0)) (h0 : 0 < l.length) (hs : pattern_Shape.f (rd_T62 l 0).f0 (rd_T62 l 0).f1 (rd_T62 l 0).f2 = some sh) :
  Calls Tryd.prog 48 #[.string s, .int .i64 l.length, .int .i64 sh] W fun e w' => e = .returned (.bool true) ∧ Below W.heap.size W w' := by
 have HP := Aside0.mk (pattern_Parse.calls s l 0 0 W hGL hp)
 have HG := Aside0.mk hGL
 have h0c : (0 : Int) < (l.length : Int) := by omega
 clear hGL hp
 go_enter Tryd.func48, Tryd.ntmps48
 go_wp2_with (fail)
 (with_reducible refine HP.out.mono ?_)
 rintro e w1 ⟨v0, rfl, hS, hb⟩
 obtain ⟨A, c, rfl, hAc, hC⟩ := Kd.S_reads hS
 have HB := Aside0.mk hb
 have hC2 := Kd.C_below hC (below_alloc (Below.refl w1.heap.size w1) (.cells #[.slice A l.length c] 55 (0, 0)))
 obtain ⟨ad, A0, c0, rfl, x0, x1, x2, hle, hC0⟩ := at_T62 hC2 0 (by omega) h0c
 have hz : ad.add ((0 : Int).toNat * 3) = ad := by simp [Addr.add]
 rw [hz] at x0 x1 x2
 have HS := Aside0.mk (pattern_Shape.calls A0 c0 (rd_T62 l 0).f0 (rd_T62 l 0).f1 (rd_T62 l 0).f2 sh _ (HG.out.below (HB.out.trans ((below_alloc (Below.refl w1.heap.size w1) (.cells #[.slice (some ad) l.length c] 55 (0, 0))).mono HB.out.size))) hC0 hle hs)
 clear hS hC hb HP hC2 hC0
 go_wp2_with (fail)
 (with_reducible refine HS.out.mono ?_)
 rintro e w2 ⟨rfl, hb2⟩
 have HB2 := Aside0.mk ((below_alloc HB.out (.cells #[.slice (some ad) l.length c] 55 (0, 0))).trans (hb2.mono (below_alloc HB.out (.cells #[.slice (some ad) l.length c] 55 (0, 0))).size))
 clear hb2 HS
 go_wp2
 go_ret
 exact ⟨rfl, HB2.out⟩
def rdChk (s : ByteArray) (n sh : Int) : Bool := match parseR s with
 | .ok l => (l.length : Int) == n && decide (0 < l.length) && decide ((rd_T62 l 0).f0.length ≤ 1000000) && shapeOf (rd_T62 l 0).f0 (rd_T62 l 0).f1 (rd_T62 l 0).f2 == sh
 | .error _ => false
def wrChk (s : ByteArray) (a : Int) : Bool := match parseR s with
 | .ok _ => false
 | .error x => x.1 == 12 && x.2 == a
theorem read_ok (s : ByteArray) (n sh : Int) (W : World) (hGL : GL W) (h : rdChk s n sh = true) :
  Calls Tryd.prog 48 #[.string s, .int .i64 n, .int .i64 sh] W fun e w' => e = .returned (.bool true) ∧ Below W.heap.size W w' := by
 unfold rdChk at h
 rcases hp : parseR s with x | l
 ·rw [hp] at h; cases h
 ·rw [hp] at h
  simp only [Bool.and_eq_true, beq_iff_eq, decide_eq_true_eq] at h
  obtain ⟨⟨⟨rfl, h0⟩, h1⟩, rfl⟩ := h
  exact read_true s l _ W hGL (by unfold pattern_Parse.f; rw [hp]) h0 (by unfold pattern_Shape.f; rw [if_pos h1])
theorem wrong_ok (s : ByteArray) (a : Int) (W : World) (hGL : GL W) (h : wrChk s a = true) :
  Calls Tryd.prog 49 #[.string s, .int .i64 a] W fun e w' => e = .returned (.bool true) ∧ Below W.heap.size W w' := by
 unfold wrChk at h
 rcases hp : parseR s with x | l
 ·rw [hp] at h
  simp only [Bool.and_eq_true, beq_iff_eq] at h
  obtain ⟨h1, rfl⟩ := h
  exact wrong_true s _ W hGL (by unfold pattern_Parse.f; rw [hp, ← h1])
 ·rw [hp] at h; cases h
def exP : List S62 := [⟨[⟨2, ⟨#[48]⟩⟩], false, 2⟩]
def exQ : List S62 := [⟨[⟨2, ⟨#[48]⟩⟩, ⟨2, ⟨#[48]⟩⟩], true, 0⟩]
def exK : List S62 := [⟨[⟨1, ⟨#[107]⟩⟩, ⟨1, ⟨#[103]⟩⟩, ⟨1, ⟨#[32]⟩⟩, ⟨2, ⟨#[48]⟩⟩], false, 0⟩]
set_option maxRecDepth 100000 in
set_option maxHeartbeats 4000000 in
theorem shown_walk (W : World) (hGL : GL W) : Calls Tryd.prog 28 #[] W fun e w' => e = .returned (.bool true) ∧ Below W.heap.size W w' := by
 have HG := Aside0.mk hGL
 have HB0 := Aside0.mk (Below.refl W.heap.size W)
 clear hGL
 go_enter Tryd.func28, Tryd.ntmps28
 go_wp2_with (fail)
 (with_reducible refine (read_ok ⟨#[48, 46, 48, 48]⟩ 1 2 _ (HG.out.below HB0.out) (by kernel_rfl)).mono ?_)
 rintro e w1 ⟨rfl, hb⟩
 have HB1 := Aside0.mk (HB0.out.trans (hb.mono HB0.out.size))
 clear hb
 go_wp2_with (fail)
 (with_reducible refine (read_ok ⟨#[35, 44, 35, 35, 48, 59, 40, 35, 44, 35, 35, 48, 41]⟩ 2 2 _ (HG.out.below HB1.out) (by kernel_rfl)).mono ?_)
 rintro e w2 ⟨rfl, hb⟩
 have HB2 := Aside0.mk (HB1.out.trans (hb.mono HB1.out.size))
 clear hb
 go_wp2_with (fail)
 (with_reducible refine (read_ok ⟨#[48, 46, 48, 48, 69, 43, 48, 48]⟩ 1 3 _ (HG.out.below HB2.out) (by kernel_rfl)).mono ?_)
 rintro e w3 ⟨rfl, hb⟩
 have HB3 := Aside0.mk (HB2.out.trans (hb.mono HB2.out.size))
 clear hb
 go_wp2_with (fail)
 (with_reducible refine (read_ok ⟨#[35, 32, 63, 47, 63, 63]⟩ 1 4 _ (HG.out.below HB3.out) (by kernel_rfl)).mono ?_)
 rintro e w4 ⟨rfl, hb⟩
 have HB4 := Aside0.mk (HB3.out.trans (hb.mono HB3.out.size))
 clear hb
 go_wp2_with (fail)
 (with_reducible refine (read_ok ⟨#[71, 101, 110, 101, 114, 97, 108]⟩ 1 5 _ (HG.out.below HB4.out) (by kernel_rfl)).mono ?_)
 rintro e w5 ⟨rfl, hb⟩
 have HB5 := Aside0.mk (HB4.out.trans (hb.mono HB4.out.size))
 clear hb
 go_wp2_with (fail)
 (with_reducible refine (read_ok ⟨#[34, 97, 34, 64]⟩ 1 6 _ (HG.out.below HB5.out) (by kernel_rfl)).mono ?_)
 rintro e w6 ⟨rfl, hb⟩
 have HB6 := Aside0.mk (HB5.out.trans (hb.mono HB5.out.size))
 clear hb
 go_wp2_with (fail)
 (with_reducible refine (read_ok ⟨#[59, 59, 59]⟩ 4 1 _ (HG.out.below HB6.out) (by kernel_rfl)).mono ?_)
 rintro e w7 ⟨rfl, hb⟩
 have HB7 := Aside0.mk (HB6.out.trans (hb.mono HB6.out.size))
 clear hb
 go_wp2_with (fail)
 (with_reducible refine (wrong_ok ⟨#[48, 46, 48, 44, 44]⟩ 3 _ (HG.out.below HB7.out) (by kernel_rfl)).mono ?_)
 rintro e w8 ⟨rfl, hb⟩
 have HB8 := Aside0.mk (HB7.out.trans (hb.mono HB7.out.size))
 clear hb
 go_wp2_with (fail)
 (with_reducible refine (wrong_ok ⟨#[44, 48]⟩ 0 _ (HG.out.below HB8.out) (by kernel_rfl)).mono ?_)
 rintro e w9 ⟨rfl, hb⟩
 have HB9 := Aside0.mk (HB8.out.trans (hb.mono HB8.out.size))
 clear hb
 go_wp2_with (fail)
 (with_reducible refine (wrong_ok ⟨#[48, 46, 48, 44, 48]⟩ 3 _ (HG.out.below HB9.out) (by kernel_rfl)).mono ?_)
 rintro e w10 ⟨rfl, hb⟩
 have HB10 := Aside0.mk (HB9.out.trans (hb.mono HB9.out.size))
 clear hb
 go_wp2_with (fail)
 (with_reducible refine (wrong_ok ⟨#[34, 97]⟩ 0 _ (HG.out.below HB10.out) (by kernel_rfl)).mono ?_)
 rintro e w11 ⟨rfl, hb⟩
 have HB11 := Aside0.mk (HB10.out.trans (hb.mono HB10.out.size))
 clear hb
 go_wp2_with (fail)
 (with_reducible refine (wrong_ok ⟨#[97]⟩ 0 _ (HG.out.below HB11.out) (by kernel_rfl)).mono ?_)
 rintro e w12 ⟨rfl, hb⟩
 have HB12 := Aside0.mk (HB11.out.trans (hb.mono HB11.out.size))
 clear hb
 go_wp2_with (fail)
 (with_reducible refine (wrong_ok ⟨#[48, 59, 48, 59, 48, 59, 48]⟩ 6 _ (HG.out.below HB12.out) (by kernel_rfl)).mono ?_)
 rintro e w13 ⟨rfl, hb⟩
 have HB13 := Aside0.mk (HB12.out.trans (hb.mono HB12.out.size))
 clear hb
 go_wp2_with (fail)
 (with_reducible refine (wrong_ok ⟨#[48, 46, 46, 48]⟩ 0 _ (HG.out.below HB13.out) (by kernel_rfl)).mono ?_)
 rintro e w14 ⟨rfl, hb⟩
 have HB14 := Aside0.mk (HB13.out.trans (hb.mono HB13.out.size))
 clear hb
 go_wp2_with (fail)
 (with_reducible refine (wrong_ok ⟨#[64, 59, 48]⟩ 0 _ (HG.out.below HB14.out) (by kernel_rfl)).mono ?_)
 rintro e w15 ⟨rfl, hb⟩
 have HB15 := Aside0.mk (HB14.out.trans (hb.mono HB14.out.size))
 clear hb
 go_wp2_with (fail)
 (with_reducible refine (wrong_ok ⟨#[48, 59, 49]⟩ 2 _ (HG.out.below HB15.out) (by kernel_rfl)).mono ?_)
 rintro e w16 ⟨rfl, hb⟩
 have HB16 := Aside0.mk (HB15.out.trans (hb.mono HB15.out.size))
 clear hb
 go_wp2_with (fail)
 (with_reducible refine (pattern_Parse.calls ⟨#[48, 44, 44]⟩ exP 0 0 _ (HG.out.below HB16.out) (by kernel_rfl)).mono ?_)
 rintro e wa ⟨vp, rfl, hSp, hb⟩
 obtain ⟨Ap, cp, rfl, hcp, hCp⟩ := Kd.S_reads hSp
 rw [show exP.length = 1 from rfl] at hcp hCp ⊢
 have HBa := Aside0.mk (below_alloc (HB16.out.trans (hb.mono HB16.out.size)) (.cells #[.slice Ap 1 cp] 55 (0, 0)))
 have HCp := Aside0.mk (Kd.C_below hCp (below_alloc (Below.refl wa.heap.size wa) (.cells #[.slice Ap 1 cp] 55 (0, 0))))
 clear hSp hb hCp
 go_wp2_with (fail)
 (with_reducible refine (pattern_Parse.calls ⟨#[48, 44, 48]⟩ exQ 0 0 _ (HG.out.below HBa.out) (by kernel_rfl)).mono ?_)
 rintro e wb ⟨vq, rfl, hSq, hb⟩
 obtain ⟨Aq, cq, rfl, hcq, hCq⟩ := Kd.S_reads hSq
 rw [show exQ.length = 1 from rfl] at hcq hCq ⊢
 have e1 : wb.heap[wa.heap.size]? = some (.cells #[.slice Ap 1 cp] 55 (0, 0)) := (hb.block wa.heap.size (by rw [show (wa.alloc (.cells #[.slice Ap 1 cp] 55 (0, 0))).heap.size = wa.heap.size + 1 from Array.size_push _]; omega)).trans Array.getElem?_push_size
 have HCp2 := Aside0.mk (Kd.C_below HCp.out (below_alloc hb (.cells #[.slice Aq 1 cq] 55 (0, 0))))
 have HBb := Aside0.mk (below_alloc (HBa.out.trans (hb.mono HBa.out.size)) (.cells #[.slice Aq 1 cq] 55 (0, 0)))
 have HCq := Aside0.mk (Kd.C_below hCq (below_alloc (Below.refl wb.heap.size wb) (.cells #[.slice Aq 1 cq] 55 (0, 0))))
 have E1 := Aside0.mk e1
 clear hSq hb hCq HCp e1
 go_wp2_with (fail)
 (with_reducible refine (pattern_Parse.calls ⟨#[34, 107, 103, 34, 32, 48]⟩ exK 0 0 _ (HG.out.below HBb.out) (by kernel_rfl)).mono ?_)
 rintro e wc ⟨vk, rfl, hSk, hb⟩
 obtain ⟨Ak, ck, rfl, hck, hCk⟩ := Kd.S_reads hSk
 rw [show exK.length = 1 from rfl] at hck hCk ⊢
 have bn := below_alloc hb (.cells #[.slice Ak 1 ck] 55 (0, 0))
 have sq : (wb.alloc (.cells #[.slice Aq 1 cq] 55 (0, 0))).heap.size = wb.heap.size + 1 := Array.size_push _
 have la : wa.heap.size < wb.heap.size := blk_lt E1.out
 have f1 : (wc.alloc (.cells #[.slice Ak 1 ck] 55 (0, 0))).cell? ⟨wa.heap.size, 0, none⟩ = some (.slice Ap 1 cp) := blk_cell ((bn.block wa.heap.size (by omega)).trans ((below_alloc (Below.refl wb.heap.size wb) (.cells #[.slice Aq 1 cq] 55 (0, 0))).block wa.heap.size la |>.trans E1.out)) 0
 have f2 : (wc.alloc (.cells #[.slice Ak 1 ck] 55 (0, 0))).cell? ⟨wb.heap.size, 0, none⟩ = some (.slice Aq 1 cq) := blk_cell ((bn.block wb.heap.size (by omega)).trans Array.getElem?_push_size) 0
 have hCp3 := Kd.C_below HCp2.out bn
 have hCq3 := Kd.C_below HCq.out bn
 have hCk3 := Kd.C_below hCk (below_alloc (Below.refl wc.heap.size wc) (.cells #[.slice Ak 1 ck] 55 (0, 0)))
 have HBc := Aside0.mk (below_alloc (HBb.out.trans (hb.mono HBb.out.size)) (.cells #[.slice Ak 1 ck] 55 (0, 0)))
 obtain ⟨ap, Ap0, cp0, rfl, xp0, xp1, xp2, _, _⟩ := at_T62 hCp3 0 (by omega) (by omega)
 obtain ⟨aq, Aq0, cq0, rfl, xq0, xq1, xq2, _, _⟩ := at_T62 hCq3 0 (by omega) (by omega)
 have hz : ∀ ad : Addr, ad.add ((0 : Int).toNat * 3) = ad := fun ad => by simp [Addr.add]
 rw [hz] at xp0 xp1 xp2 xq0 xq1 xq2
 rw [show (rd_T62 exP 0).f2 = 2 from rfl] at xp2
 rw [show (rd_T62 exP 0).f1 = false from rfl] at xp1
 rw [show (rd_T62 exQ 0).f1 = true from rfl] at xq1
 have HPr := Aside0.mk (pattern_Print.calls 60 Ak ck exK ⟨#[92, 107, 92, 103, 32, 48]⟩ _ (HG.out.below HBc.out) hCk3 hck (by kernel_rfl))
 rw [show exK.length = 1 from rfl] at HPr
 clear hSk hb hCk hCp3 hCq3 hCk3 HCp2 HCq bn sq la xp0 xq0
 go_wp2_with (fail)
 (with_reducible refine HPr.out.mono ?_)
 rintro e wd ⟨rfl, hb⟩
 have HBd := Aside0.mk (HBc.out.trans (hb.mono HBc.out.size))
 clear hb HPr
 go_wp2
 go_ret
 exact ⟨rfl, HBd.out⟩
def tabardlaw13_shown.f : Option Bool := some true
theorem tabardlaw13_shown.calls (r : Bool) (w : World) (hGL : GL w) (h : tabardlaw13_shown.f = some r) : Calls Tryd.prog 28 #[] w fun e w' => e = .returned (.bool r) ∧ Below w.heap.size w w' := by
 obtain rfl := Option.some.inj h
 exact shown_walk w hGL
end Go.Proofs.YtmbhjogohfcjgaaDoor.P
