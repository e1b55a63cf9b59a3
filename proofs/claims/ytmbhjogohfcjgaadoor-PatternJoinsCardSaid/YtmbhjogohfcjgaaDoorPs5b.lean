/- The walk of (Section).shape's arm for numbers and powers (written by wip/tools/gennum.py). -/
import Derived.Test.YtmbhjogohfcjgaaDoorPs5
namespace Go.Proofs.YtmbhjogohfcjgaaDoor.P
open Go.RowKit Go.Proofs.YtmbhjogohfcjgaaDoorW.PrintWords Go.Proofs.YtmbhjogohfcjgaaDoorW.PrintLast Go.Proofs.YtmbhjogohfcjgaaDoorW.PrintMore
set_option linter.unusedVariables false
set_option linter.unusedSimpArgs false
theorem cut_lit {w : World} {A : Option Addr} {n c : Nat} (l : List S88) (k1 : Int) (hn : l.length = n) (hr : Kd.C k88 w A l.length l) (hc : n ≤ c) :
  ∀ W, Below w.heap.size w W → Calls Tryd.prog 82 #[.slice A n c, .slice (some ⟨W.heap.size, 0, none⟩) 1 1] (W.alloc (.cells #[.int .i64 k1] 3 (0, 0)))
   fun e w' => e = .returned (.tuple #[.slice A (cutAt [k1] l) c, .slice (cutA A (cutAt [k1] l) c) (n - cutAt [k1] l) (c - cutAt [k1] l)]) ∧ Below W.heap.size W w' := by
 subst hn
 intro W hW
 have h1 := (Below.refl W.heap.size W).alloc (Nat.le_refl _) (.cells #[.int .i64 k1] 3 (0, 0))
 refine (cut_walk_n 1 A c l (some ⟨W.heap.size, 0, none⟩) 1 [k1] _ rfl (Kd.C_below (Kd.C_below hr hW) h1) hc (ints_lit (t := 3) [k1] (by simp) (heap_alloc_new W _))).mono fun e w' ⟨he, hb⟩ => ⟨he, h1.trans (hb.mono (by simp))⟩
def numOf (l : List S88) : Int :=
 if 30 < digs ((l.take (cutAt [5] l)).take (cutAt [3] (l.take (cutAt [5] l)))) ∨ 30 < digs ((l.take (cutAt [5] l)).drop (cutAt [3] (l.take (cutAt [5] l)))) then 0
 else if l.length - cutAt [5] l = 0 then 2
 else if cutAt [3] (l.drop (cutAt [5] l)) = l.length - cutAt [5] l ∧ 0 < digs (l.take (cutAt [5] l)) ∧ 1 ≤ digs (l.drop (cutAt [5] l)) ∧ digs (l.drop (cutAt [5] l)) ≤ 4 then 3
 else 0
set_option maxRecDepth 100000 in
set_option maxHeartbeats 16000000 in
theorem shape_num (A0 : Option Addr) (c0 : Nat) (l0 : List S88) (b : Bool) (sc n0 n1 n2 n3 n4 n5 n6 n7 n8 n9 : Int) (w : World) (hb : ShpB n2 n3 n4 n5 n6 n7 n8 n9) (hl : l0.length ≤ 1000000) (hr : Kd.C k88 w A0 l0.length l0) (hc : l0.length ≤ c0)
  (t1 : decide (0 < n7 + n8) = false) (t3 : (n7 == 1) = false) (t5 : (n7 == 0) = true) (t6 : decide (0 < n8) = false) (t4 : (n8 == 0) = true) (t8 : (n2 + n3 + n4 + n5 + n6 == 0) = false) (t9 : (n6 == 1) = false) (t11 : (n6 == 0) = true) (t12 : decide (0 < n2) = true) (t13 : decide (n3 ≤ 1) = true) (t14 : decide (n4 ≤ 1) = true) (t15 : decide (n5 ≤ 1) = true) :
  Calls Tryd.prog 52 #[.agg #[.slice A0 l0.length c0, .bool b, .int .i64 sc], .agg #[.int .i64 n0, .int .i64 n1, .int .i64 n2, .int .i64 n3, .int .i64 n4, .int .i64 n5, .int .i64 n6, .int .i64 n7, .int .i64 n8, .int .i64 n9]] w fun e w' => e = .returned (.int .i64 (numOf l0)) ∧ Below w.heap.size w w' := by
 obtain ⟨⟨a2, b2⟩, ⟨a3, b3⟩, ⟨a4, b4⟩, ⟨a5, b5⟩, ⟨a6, b6⟩, ⟨a7, b7⟩, ⟨a8, b8⟩, ⟨a9, b9⟩⟩ := hb
 have hcl := cutAt_le [5] l0
 have hpl := cutAt_le [3] (l0.take (cutAt [5] l0))
 have hql := cutAt_le [3] (l0.drop (cutAt [5] l0))
 rw [List.length_take, Nat.min_eq_left hcl] at hpl
 rw [List.length_drop] at hql
 have HC := Aside0.mk hc
 have h3 : Below w.heap.size w (((w.alloc (.cells #[.slice A0 l0.length c0, .bool b, .int .i64 sc] 62 (0, 0))).alloc (.cells #[.int .i64 n0, .int .i64 n1, .int .i64 n2, .int .i64 n3, .int .i64 n4, .int .i64 n5, .int .i64 n6, .int .i64 n7, .int .i64 n8, .int .i64 n9] 90 (0, 0))).alloc (.cells #[.int .i64 5] 3 (0, 0))) := (((Below.refl _ _).alloc (Nat.le_refl _) _).alloc (by simp) _).alloc (by simp; omega) _
 have HX := Aside0.mk (cut_walk_n 1 A0 c0 l0 (some ⟨w.heap.size + 1 + 1, 0, none⟩) 1 [5] _ rfl (Kd.C_below hr h3) hc (ints_lit (t := 3) [5] (by decide) (heap3 w _ _ _)))
 have HB3 := Aside0.mk h3
 have hlt : (l0.take (cutAt [5] l0)).length = cutAt [5] l0 := by simp; omega
 have hld : (l0.drop (cutAt [5] l0)).length = l0.length - cutAt [5] l0 := by simp
 have hCt := Kd.C_take hr hcl
 have hCd := Kd.C_drop hr hcl hc
 have hlp : ((l0.take (cutAt [5] l0)).take (cutAt [3] (l0.take (cutAt [5] l0)))).length = cutAt [3] (l0.take (cutAt [5] l0)) := by rw [List.length_take, hlt]; omega
 have hlq : ((l0.take (cutAt [5] l0)).drop (cutAt [3] (l0.take (cutAt [5] l0)))).length = cutAt [5] l0 - cutAt [3] (l0.take (cutAt [5] l0)) := by rw [List.length_drop, hlt]
 have HP := Aside0.mk (cut_lit (w := w) (l0.take (cutAt [5] l0)) 3 hlt hCt (c := c0) (by omega))
 have HW := Aside0.mk (digits_any (w := w) (c := c0) ((l0.take (cutAt [5] l0)).take (cutAt [3] (l0.take (cutAt [5] l0)))) (by omega) hlp (Kd.C_take hCt (by omega)) (by omega))
 have HL := Aside0.mk (digits_any (w := w) (c := c0 - cutAt [3] (l0.take (cutAt [5] l0))) ((l0.take (cutAt [5] l0)).drop (cutAt [3] (l0.take (cutAt [5] l0)))) (by omega) hlq (Kd.C_drop (c := c0) hCt (by omega) (by omega)) (by omega))
 have HQ := Aside0.mk (cut_lit (w := w) (l0.drop (cutAt [5] l0)) 3 hld hCd (c := c0 - cutAt [5] l0) (by omega))
 have HT := Aside0.mk (digits_any (w := w) (c := c0 - cutAt [5] l0) (l0.drop (cutAt [5] l0)) (by omega) hld hCd (by omega))
 have HH := Aside0.mk (digits_any (w := w) (c := c0) (l0.take (cutAt [5] l0)) (by omega) hlt hCt (by omega))
 rw [show (if c0 = cutAt [5] l0 then A0 else A0.map (·.add (cutAt [5] l0 * k88.sz))) = cutA A0 (cutAt [5] l0) c0 from rfl] at HQ HT
 rw [show (if c0 = cutAt [3] (l0.take (cutAt [5] l0)) then A0 else A0.map (·.add (cutAt [3] (l0.take (cutAt [5] l0)) * k88.sz))) = cutA A0 (cutAt [3] (l0.take (cutAt [5] l0))) c0 from rfl] at HL
 clear hr h3 hCt hCd
 obtain ⟨hw1, hw2⟩ := digs_bound ((l0.take (cutAt [5] l0)).take (cutAt [3] (l0.take (cutAt [5] l0))))
 obtain ⟨hv1, hv2⟩ := digs_bound ((l0.take (cutAt [5] l0)).drop (cutAt [3] (l0.take (cutAt [5] l0))))
 obtain ⟨hx1, hx2⟩ := digs_bound (l0.drop (cutAt [5] l0))
 obtain ⟨hy1, hy2⟩ := digs_bound (l0.take (cutAt [5] l0))
 rw [hlp] at hw2
 rw [hlq] at hv2
 rw [hld] at hx2
 rw [hlt] at hy2
 clear hlt hld hlp hlq
 unfold numOf
 generalize digs ((l0.take (cutAt [5] l0)).take (cutAt [3] (l0.take (cutAt [5] l0)))) = d1 at *
 generalize digs ((l0.take (cutAt [5] l0)).drop (cutAt [3] (l0.take (cutAt [5] l0)))) = d2 at *
 generalize digs (l0.drop (cutAt [5] l0)) = x at *
 generalize digs (l0.take (cutAt [5] l0)) = y at *
 generalize cutAt [3] (l0.take (cutAt [5] l0)) = p at *
 generalize cutAt [3] (l0.drop (cutAt [5] l0)) = q at *
 generalize cutAt [5] l0 = i at *
 have hri : l0.length - i ≤ l0.length := Nat.sub_le _ _
 generalize l0.length - i = r at *
 by_cases k1 : 30 < d1
 ·have k1b : decide (30 < d1) = true := decide_eq_true k1
  rw [if_pos (.inl k1)]
  go_enter Tryd.func52, Tryd.ntmps52
  go_wp2_with (first | (go_at_call 82; (with_reducible refine HX.out.mono ?_); rintro e w2 ⟨rfl, hb2⟩; have HB2 := Aside0.mk (HB3.out.trans (hb2.mono HB3.out.size)); clear hb2) | (go_at_call 82; (with_reducible refine (HP.out _ HB2.out).mono ?_); rintro e w_HBa ⟨rfl, hb_⟩; have HBa := Aside0.mk (HB2.out.trans (hb_.mono HB2.out.size)); clear hb_) | (go_at_call 53; (with_reducible refine (HW.out _ HBa.out).mono ?_); rintro e w_HBb ⟨rfl, hb_⟩; have HBb := Aside0.mk (HBa.out.trans (hb_.mono HBa.out.size)); clear hb_))
  go_ret
  exact ⟨rfl, HBb.out⟩
 ·have k1b : decide (30 < d1) = false := decide_eq_false k1
  by_cases k2 : 30 < d2
  ·have k2b : decide (30 < d2) = true := decide_eq_true k2
   rw [if_pos (.inr k2)]
   go_enter Tryd.func52, Tryd.ntmps52
   go_wp2_with (first | (go_at_call 82; (with_reducible refine HX.out.mono ?_); rintro e w2 ⟨rfl, hb2⟩; have HB2 := Aside0.mk (HB3.out.trans (hb2.mono HB3.out.size)); clear hb2) | (go_at_call 82; (with_reducible refine (HP.out _ HB2.out).mono ?_); rintro e w_HBa ⟨rfl, hb_⟩; have HBa := Aside0.mk (HB2.out.trans (hb_.mono HB2.out.size)); clear hb_) | (go_at_call 53; (with_reducible refine (HW.out _ HBa.out).mono ?_); rintro e w_HBb ⟨rfl, hb_⟩; have HBb := Aside0.mk (HBa.out.trans (hb_.mono HBa.out.size)); clear hb_) | (go_at_call 53; (with_reducible refine (HL.out _ HBb.out).mono ?_); rintro e w_HBc ⟨rfl, hb_⟩; have HBc := Aside0.mk (HBb.out.trans (hb_.mono HBb.out.size)); clear hb_))
   go_ret
   exact ⟨rfl, HBc.out⟩
  ·have k2b : decide (30 < d2) = false := decide_eq_false k2
   rw [if_neg (fun h => h.elim k1 k2)]
   by_cases k3 : r = 0
   ·have k3b : (r == 0) = true := beq_iff_eq.mpr k3
    have k3c : ((r : Int) == 0) = true := beq_iff_eq.mpr (by omega)
    rw [if_pos k3]
    go_enter Tryd.func52, Tryd.ntmps52
    go_wp2_with (first | (go_at_call 82; (with_reducible refine HX.out.mono ?_); rintro e w2 ⟨rfl, hb2⟩; have HB2 := Aside0.mk (HB3.out.trans (hb2.mono HB3.out.size)); clear hb2) | (go_at_call 82; (with_reducible refine (HP.out _ HB2.out).mono ?_); rintro e w_HBa ⟨rfl, hb_⟩; have HBa := Aside0.mk (HB2.out.trans (hb_.mono HB2.out.size)); clear hb_) | (go_at_call 53; (with_reducible refine (HW.out _ HBa.out).mono ?_); rintro e w_HBb ⟨rfl, hb_⟩; have HBb := Aside0.mk (HBa.out.trans (hb_.mono HBa.out.size)); clear hb_) | (go_at_call 53; (with_reducible refine (HL.out _ HBb.out).mono ?_); rintro e w_HBc ⟨rfl, hb_⟩; have HBc := Aside0.mk (HBb.out.trans (hb_.mono HBb.out.size)); clear hb_))
    go_ret
    exact ⟨rfl, HBc.out⟩
   ·have k3b : (r == 0) = false := beq_eq_false_iff_ne.mpr k3
    have k3c : ((r : Int) == 0) = false := beq_eq_false_iff_ne.mpr (by omega)
    rw [if_neg k3]
    by_cases k4 : q = r
    ·have k4b : (q == r) = true := beq_iff_eq.mpr k4
     have k4c : ((q : Int) == (r : Int)) = true := beq_iff_eq.mpr (by omega)
     by_cases k5 : 0 < y
     ·have k5b : decide (0 < y) = true := decide_eq_true k5
      by_cases k6 : 1 ≤ x
      ·have k6b : decide (1 ≤ x) = true := decide_eq_true k6
       by_cases k7 : x ≤ 4
       ·have k7b : decide (x ≤ 4) = true := decide_eq_true k7
        rw [if_pos ⟨k4, k5, k6, k7⟩]
        go_enter Tryd.func52, Tryd.ntmps52
        go_wp2_with (first | (go_at_call 82; (with_reducible refine HX.out.mono ?_); rintro e w2 ⟨rfl, hb2⟩; have HB2 := Aside0.mk (HB3.out.trans (hb2.mono HB3.out.size)); clear hb2) | (go_at_call 82; (with_reducible refine (HP.out _ HB2.out).mono ?_); rintro e w_HBa ⟨rfl, hb_⟩; have HBa := Aside0.mk (HB2.out.trans (hb_.mono HB2.out.size)); clear hb_) | (go_at_call 53; (with_reducible refine (HW.out _ HBa.out).mono ?_); rintro e w_HBb ⟨rfl, hb_⟩; have HBb := Aside0.mk (HBa.out.trans (hb_.mono HBa.out.size)); clear hb_) | (go_at_call 53; (with_reducible refine (HL.out _ HBb.out).mono ?_); rintro e w_HBc ⟨rfl, hb_⟩; have HBc := Aside0.mk (HBb.out.trans (hb_.mono HBb.out.size)); clear hb_) | (go_at_call 82; (with_reducible refine (HQ.out _ HBc.out).mono ?_); rintro e w_HBd ⟨rfl, hb_⟩; have HBd := Aside0.mk (HBc.out.trans (hb_.mono HBc.out.size)); clear hb_) | (go_at_call 53; (with_reducible refine (HT.out _ HBd.out).mono ?_); rintro e w_HBe ⟨rfl, hb_⟩; have HBe := Aside0.mk (HBd.out.trans (hb_.mono HBd.out.size)); clear hb_) | (go_at_call 53; (with_reducible refine (HH.out _ HBe.out).mono ?_); rintro e w_HBf ⟨rfl, hb_⟩; have HBf := Aside0.mk (HBe.out.trans (hb_.mono HBe.out.size)); clear hb_))
        go_ret
        exact ⟨rfl, HBf.out⟩
       ·have k7b : decide (x ≤ 4) = false := decide_eq_false k7
        rw [if_neg (fun h => k7 h.2.2.2)]
        go_enter Tryd.func52, Tryd.ntmps52
        go_wp2_with (first | (go_at_call 82; (with_reducible refine HX.out.mono ?_); rintro e w2 ⟨rfl, hb2⟩; have HB2 := Aside0.mk (HB3.out.trans (hb2.mono HB3.out.size)); clear hb2) | (go_at_call 82; (with_reducible refine (HP.out _ HB2.out).mono ?_); rintro e w_HBa ⟨rfl, hb_⟩; have HBa := Aside0.mk (HB2.out.trans (hb_.mono HB2.out.size)); clear hb_) | (go_at_call 53; (with_reducible refine (HW.out _ HBa.out).mono ?_); rintro e w_HBb ⟨rfl, hb_⟩; have HBb := Aside0.mk (HBa.out.trans (hb_.mono HBa.out.size)); clear hb_) | (go_at_call 53; (with_reducible refine (HL.out _ HBb.out).mono ?_); rintro e w_HBc ⟨rfl, hb_⟩; have HBc := Aside0.mk (HBb.out.trans (hb_.mono HBb.out.size)); clear hb_) | (go_at_call 82; (with_reducible refine (HQ.out _ HBc.out).mono ?_); rintro e w_HBd ⟨rfl, hb_⟩; have HBd := Aside0.mk (HBc.out.trans (hb_.mono HBc.out.size)); clear hb_) | (go_at_call 53; (with_reducible refine (HT.out _ HBd.out).mono ?_); rintro e w_HBe ⟨rfl, hb_⟩; have HBe := Aside0.mk (HBd.out.trans (hb_.mono HBd.out.size)); clear hb_) | (go_at_call 53; (with_reducible refine (HH.out _ HBe.out).mono ?_); rintro e w_HBf ⟨rfl, hb_⟩; have HBf := Aside0.mk (HBe.out.trans (hb_.mono HBe.out.size)); clear hb_))
        go_ret
        exact ⟨rfl, HBf.out⟩
      ·have k6b : decide (1 ≤ x) = false := decide_eq_false k6
       rw [if_neg (fun h => k6 h.2.2.1)]
       go_enter Tryd.func52, Tryd.ntmps52
       go_wp2_with (first | (go_at_call 82; (with_reducible refine HX.out.mono ?_); rintro e w2 ⟨rfl, hb2⟩; have HB2 := Aside0.mk (HB3.out.trans (hb2.mono HB3.out.size)); clear hb2) | (go_at_call 82; (with_reducible refine (HP.out _ HB2.out).mono ?_); rintro e w_HBa ⟨rfl, hb_⟩; have HBa := Aside0.mk (HB2.out.trans (hb_.mono HB2.out.size)); clear hb_) | (go_at_call 53; (with_reducible refine (HW.out _ HBa.out).mono ?_); rintro e w_HBb ⟨rfl, hb_⟩; have HBb := Aside0.mk (HBa.out.trans (hb_.mono HBa.out.size)); clear hb_) | (go_at_call 53; (with_reducible refine (HL.out _ HBb.out).mono ?_); rintro e w_HBc ⟨rfl, hb_⟩; have HBc := Aside0.mk (HBb.out.trans (hb_.mono HBb.out.size)); clear hb_) | (go_at_call 82; (with_reducible refine (HQ.out _ HBc.out).mono ?_); rintro e w_HBd ⟨rfl, hb_⟩; have HBd := Aside0.mk (HBc.out.trans (hb_.mono HBc.out.size)); clear hb_) | (go_at_call 53; (with_reducible refine (HT.out _ HBd.out).mono ?_); rintro e w_HBe ⟨rfl, hb_⟩; have HBe := Aside0.mk (HBd.out.trans (hb_.mono HBd.out.size)); clear hb_) | (go_at_call 53; (with_reducible refine (HH.out _ HBe.out).mono ?_); rintro e w_HBf ⟨rfl, hb_⟩; have HBf := Aside0.mk (HBe.out.trans (hb_.mono HBe.out.size)); clear hb_))
       go_ret
       exact ⟨rfl, HBf.out⟩
     ·have k5b : decide (0 < y) = false := decide_eq_false k5
      rw [if_neg (fun h => k5 h.2.1)]
      go_enter Tryd.func52, Tryd.ntmps52
      go_wp2_with (first | (go_at_call 82; (with_reducible refine HX.out.mono ?_); rintro e w2 ⟨rfl, hb2⟩; have HB2 := Aside0.mk (HB3.out.trans (hb2.mono HB3.out.size)); clear hb2) | (go_at_call 82; (with_reducible refine (HP.out _ HB2.out).mono ?_); rintro e w_HBa ⟨rfl, hb_⟩; have HBa := Aside0.mk (HB2.out.trans (hb_.mono HB2.out.size)); clear hb_) | (go_at_call 53; (with_reducible refine (HW.out _ HBa.out).mono ?_); rintro e w_HBb ⟨rfl, hb_⟩; have HBb := Aside0.mk (HBa.out.trans (hb_.mono HBa.out.size)); clear hb_) | (go_at_call 53; (with_reducible refine (HL.out _ HBb.out).mono ?_); rintro e w_HBc ⟨rfl, hb_⟩; have HBc := Aside0.mk (HBb.out.trans (hb_.mono HBb.out.size)); clear hb_) | (go_at_call 82; (with_reducible refine (HQ.out _ HBc.out).mono ?_); rintro e w_HBd ⟨rfl, hb_⟩; have HBd := Aside0.mk (HBc.out.trans (hb_.mono HBc.out.size)); clear hb_) | (go_at_call 53; (with_reducible refine (HT.out _ HBd.out).mono ?_); rintro e w_HBe ⟨rfl, hb_⟩; have HBe := Aside0.mk (HBd.out.trans (hb_.mono HBd.out.size)); clear hb_) | (go_at_call 53; (with_reducible refine (HH.out _ HBe.out).mono ?_); rintro e w_HBf ⟨rfl, hb_⟩; have HBf := Aside0.mk (HBe.out.trans (hb_.mono HBe.out.size)); clear hb_))
      go_ret
      exact ⟨rfl, HBf.out⟩
    ·have k4b : (q == r) = false := beq_eq_false_iff_ne.mpr k4
     have k4c : ((q : Int) == (r : Int)) = false := beq_eq_false_iff_ne.mpr (by omega)
     rw [if_neg (fun h => k4 h.1)]
     go_enter Tryd.func52, Tryd.ntmps52
     go_wp2_with (first | (go_at_call 82; (with_reducible refine HX.out.mono ?_); rintro e w2 ⟨rfl, hb2⟩; have HB2 := Aside0.mk (HB3.out.trans (hb2.mono HB3.out.size)); clear hb2) | (go_at_call 82; (with_reducible refine (HP.out _ HB2.out).mono ?_); rintro e w_HBa ⟨rfl, hb_⟩; have HBa := Aside0.mk (HB2.out.trans (hb_.mono HB2.out.size)); clear hb_) | (go_at_call 53; (with_reducible refine (HW.out _ HBa.out).mono ?_); rintro e w_HBb ⟨rfl, hb_⟩; have HBb := Aside0.mk (HBa.out.trans (hb_.mono HBa.out.size)); clear hb_) | (go_at_call 53; (with_reducible refine (HL.out _ HBb.out).mono ?_); rintro e w_HBc ⟨rfl, hb_⟩; have HBc := Aside0.mk (HBb.out.trans (hb_.mono HBb.out.size)); clear hb_) | (go_at_call 82; (with_reducible refine (HQ.out _ HBc.out).mono ?_); rintro e w_HBd ⟨rfl, hb_⟩; have HBd := Aside0.mk (HBc.out.trans (hb_.mono HBc.out.size)); clear hb_) | (go_at_call 53; (with_reducible refine (HT.out _ HBd.out).mono ?_); rintro e w_HBe ⟨rfl, hb_⟩; have HBe := Aside0.mk (HBd.out.trans (hb_.mono HBd.out.size)); clear hb_))
     go_ret
     exact ⟨rfl, HBe.out⟩
end Go.Proofs.YtmbhjogohfcjgaaDoor.P
