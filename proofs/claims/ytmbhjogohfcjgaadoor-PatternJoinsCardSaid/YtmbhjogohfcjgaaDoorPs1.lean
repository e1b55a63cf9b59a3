/- The walks of pattern.cut (slices.IndexFunc over a closure that asks slices.Contains), and of (Section).head, (Section).pair. -/
import Derived.Test.YtmbhjogohfcjgaaDoorPe
import Derived.Test.YtmbhjogohfcjgaaDoorP1
import Derived.Lib.Hide
namespace Go.Proofs.YtmbhjogohfcjgaaDoor.P
open Go.RowKit Go.Proofs.YtmbhjogohfcjgaaDoorW.PrintWords Go.Proofs.YtmbhjogohfcjgaaDoorW.PrintLast Go.Proofs.YtmbhjogohfcjgaaDoorW.PrintMore
set_option linter.unusedVariables false
set_option linter.unusedSimpArgs false
def cutAt (ks : List Int) (l : List S88) : Nat := l.findIdx (fun x => hasInt ks x.f0)
theorem cut1_walk (x : S88) (bk : Nat) (Ak : Option Addr) (ck : Nat) (ks : List Int) (w : World) (hb : w.cell? ⟨bk, 0, none⟩ = some (.slice Ak ks.length ck)) (hk : Kd.C (Kd.int .i64) w Ak ks.length ks) :
  Calls Tryd.prog 111 #[.agg #[.int .i64 x.f0, .string x.f1], .pointer (some ⟨bk, 0, none⟩)] w fun e w' => e = .returned (.bool (hasInt ks x.f0)) ∧ Below w.heap.size w w' := by
 have HK := Aside0.mk hk
 clear hk
 have hbk := World.block_lt_of_cell? w _ hb
 go_enter Tryd.func111, Tryd.ntmps111
 go_wp2_with (go_at_call 112; (with_reducible refine (slices_Contains.calls _ _ _ _ _ (Kd.C_below HK.out ((Below.refl _ _).alloc (Nat.le_refl _) _))).mono ?_); rintro e w' ⟨rfl, rfl⟩)
 go_ret
 exact ⟨rfl, (Below.refl _ _).alloc (Nat.le_refl _) _⟩
theorem cutAt_le (ks : List Int) (l : List S88) : cutAt ks l ≤ l.length := List.findIdx_le_length
theorem cutAt_none {ks : List Int} {l : List S88} (h : ∀ x ∈ l, hasInt ks x.f0 = false) : cutAt ks l = l.length := List.findIdx_eq_length_of_false h
theorem cutAt_at {ks : List Int} {l : List S88} {k : Nat} (hlt : k < l.length) (h0 : ∀ x ∈ l.take k, hasInt ks x.f0 = false) (h1 : hasInt ks (rd_T88 l (k : Int)).f0 = true) : cutAt ks l = k := by
 rw [cutAt, List.findIdx_eq hlt]
 rw [rd_T88, Int.toNat_natCast, List.getD_eq_getElem?_getD, List.getElem?_eq_getElem hlt] at h1
 refine ⟨h1, fun j hj => h0 _ ?_⟩
 rw [List.mem_take_iff_getElem]
 exact ⟨j, by omega, rfl⟩
theorem ret_int {k : IntKind} {a b : Int} (h : a = b) : Ending.returned (.int k a) = .returned (.int k b) := by rw [h]
def ixOf (ks : List Int) (l : List S88) : Int := if cutAt ks l < l.length then (cutAt ks l : Int) else -1
set_option maxHeartbeats 1000000 in
theorem ixf_walk (A0 : Option Addr) (c0 : Nat) (l0 : List S88) (bk : Nat) (Ak : Option Addr) (ck : Nat) (ks : List Int) (w : World) (hr : Kd.C k88 w A0 l0.length l0) (hc : l0.length ≤ c0)
  (hb : w.cell? ⟨bk, 0, none⟩ = some (.slice Ak ks.length ck)) (hk : Kd.C (Kd.int .i64) w Ak ks.length ks) :
  Calls Tryd.prog 110 #[.slice A0 l0.length c0, .func (.func 111) #[] #[.pointer (some ⟨bk, 0, none⟩)]] w fun e w' => e = .returned (.int .i64 (ixOf ks l0)) ∧ Below w.heap.size w w' := by
 have hm : l0.length ≤ 9223372036854775807 := hr.2.1
 have HR := Aside0.mk hr
 have HC := Aside0.mk hc
 have HK := Aside0.mk hk
 have HBK := Aside0.mk hb
 clear hr hc hk hb
 go_enter Tryd.func110, Tryd.ntmps110
 go_wp2
 go_loopw [8] (fun i w' => ∃ k : Nat, k ≤ l0.length ∧ i = .int .i64 k ∧ Aside0 (∀ x ∈ l0.take k, hasInt ks x.f0 = false) ∧ Aside0 (Below w.heap.size w w')) (fun i _ => l0.length - (intOf i).toNat)
 case atStart => exact ⟨0, Nat.zero_le _, rfl, ⟨by simp⟩, ⟨Below.refl _ _⟩⟩
 case round =>
  obtain ⟨k, hk, rfl, HA, HB⟩ := hrel
  by_cases hlt : k < l0.length
  ·have hlt' : (k : Int) < (l0.length : Int) := by omega
   obtain ⟨ad, e, hx0, hx1⟩ := at_T88 HR.out (k : Int) (by omega) hlt'
   cases e
   rw [Int.toNat_natCast] at hx0 hx1
   replace hx0 := (HB.out.cell (World.block_lt_of_cell? w _ hx0)).trans hx0
   replace hx1 := (HB.out.cell (World.block_lt_of_cell? w _ hx1)).trans hx1
   have hbc := (HB.out.cell (World.block_lt_of_cell? w _ HBK.out)).trans HBK.out
   have hkc := Kd.C_below HK.out HB.out
   have HC1 := Aside0.mk (cut1_walk (rd_T88 l0 (k : Int)) bk Ak ck ks _ hbc hkc)
   clear hbc hkc
   cases hh : hasInt ks (rd_T88 l0 (k : Int)).f0
   ·have HH := Aside0.mk hh
    rw [hh] at HC1
    clear hh
    go_wp2_with (go_at_call 111; (with_reducible refine HC1.out.mono ?_); rintro e w2 ⟨rfl, hb2⟩; have HB2 := Aside0.mk hb2; clear hb2)
    go_roundw
    case rel =>
     refine ⟨k + 1, by omega, by go_num, ⟨fun x hx => ?_⟩, ⟨HB.out.trans (HB2.out.mono HB.out.size)⟩⟩
     rw [List.take_succ_eq_append_getElem hlt] at hx
     rcases List.mem_append.1 hx with hx | hx
     ·exact HA.out x hx
     ·have hx := List.mem_singleton.1 hx
      have := HH.out
      rw [rd_T88, Int.toNat_natCast, List.getD_eq_getElem?_getD, List.getElem?_eq_getElem hlt] at this
      rw [hx]; exact this
    case measure => simp [intOf]; omega
   ·have HH := Aside0.mk hh
    rw [hh] at HC1
    clear hh
    go_wp2_with (go_at_call 111; (with_reducible refine HC1.out.mono ?_); rintro e w2 ⟨rfl, hb2⟩; have HB2 := Aside0.mk hb2; clear hb2)
    go_ret
    refine ⟨ret_int ?_, HB.out.trans (HB2.out.mono HB.out.size)⟩
    unfold ixOf
    rw [cutAt_at hlt HA.out HH.out, if_pos hlt]
  ·go_wp2
   go_ret
   refine ⟨ret_int ?_, HB.out⟩
   obtain rfl : k = l0.length := by omega
   have HA1 := HA.out
   rw [List.take_length] at HA1
   unfold ixOf
   rw [cutAt_none HA1, if_neg (Nat.lt_irrefl _)]
def cutA (A : Option Addr) (i c : Nat) : Option Addr := if c = i then A else A.map (·.add (i * 2))
theorem infoItem : (Tryd.prog.info? 88).map (fun i => (i.zero, i.size, i.bytes)) = some (some (.agg #[.int .i64 0, .string ⟨#[]⟩]), 2, 24) := by kernel_rfl
set_option maxHeartbeats 1000000 in
theorem cut_walk (A0 : Option Addr) (c0 : Nat) (l0 : List S88) (Ak : Option Addr) (ck : Nat) (ks : List Int) (w : World) (hr : Kd.C k88 w A0 l0.length l0) (hc : l0.length ≤ c0)
  (hk : Kd.C (Kd.int .i64) w Ak ks.length ks) :
  Calls Tryd.prog 82 #[.slice A0 l0.length c0, .slice Ak ks.length ck] w fun e w' => e = .returned (.tuple #[.slice A0 (cutAt ks l0) c0, .slice (cutA A0 (cutAt ks l0) c0) (l0.length - cutAt ks l0) (c0 - cutAt ks l0)]) ∧ Below w.heap.size w w' := by
 have hm : l0.length ≤ 9223372036854775807 := hr.2.1
 have hcl := cutAt_le ks l0
 have HR := Aside0.mk hr
 have HC := Aside0.mk hc
 have HK := Aside0.mk hk
 clear hr hc hk
 have hmf : ∀ (fn : Fn) (first cap : Array Value) (w : World), (Instr.makeFunc fn first cap).run Tryd.prog w = .ok (.func fn first cap) w := fun _ _ _ _ => rfl
 obtain ⟨i0, hi, hz0, hz1, hz2⟩ := info_parts infoItem
 have hto := cut_to (P := Tryd.prog) 60 88 .i64 Tryd.underlying60 hi A0 l0.length c0 (cutAt ks l0 : Int) (Int.natCast_nonneg _) (by omega) HC.out
 have hfr := cut_from (P := Tryd.prog) 60 88 .i64 Tryd.underlying60 hi 2 hz1 A0 l0.length c0 (cutAt ks l0 : Int) (Int.natCast_nonneg _) (by omega)
 rw [Int.toNat_natCast] at hto hfr
 rw [show (if c0 = cutAt ks l0 then A0 else A0.map (·.add (cutAt ks l0 * 2))) = cutA A0 (cutAt ks l0) c0 from rfl] at hfr
 clear hi hz0 hz1 hz2
 have HX := Aside0.mk (ixf_walk A0 c0 l0 w.heap.size Ak ck ks (w.alloc (.cells #[.slice Ak ks.length ck] 23 (0, 0))) (Kd.C_below HR.out ((Below.refl _ _).alloc (Nat.le_refl _) _)) HC.out (by simp) (Kd.C_below HK.out ((Below.refl _ _).alloc (Nat.le_refl _) _)))
 by_cases hlt : cutAt ks l0 < l0.length
 ·have hix : ixOf ks l0 = (cutAt ks l0 : Int) := by unfold ixOf; rw [if_pos hlt]
  rw [hix] at HX
  clear hix
  generalize cutAt ks l0 = i at *
  go_enter Tryd.func82, Tryd.ntmps82
  go_wp2_with (go_at_call 110; (with_reducible refine HX.out.mono ?_); rintro e w2 ⟨rfl, hb2⟩; have HB2 := Aside0.mk hb2; clear hb2)
  go_quiet (fail)
  go_wp2
  exact bodyPost_ret (v := .tuple #[.slice A0 i c0, .slice (cutA A0 i c0) (l0.length - i) (c0 - i)]) (by simp [results, Tryd.results82, go_sem]) rfl ⟨rfl, pw_below_drewN (((Below.refl _ _).alloc (Nat.le_refl _) _).trans (HB2.out.mono (by simp))) _⟩
 ·have hix : ixOf ks l0 = -1 := by unfold ixOf; rw [if_neg hlt]
  rw [hix] at HX
  obtain hce : cutAt ks l0 = l0.length := by omega
  rw [hce] at hto hfr ⊢
  clear hix hce hlt hcl
  go_enter Tryd.func82, Tryd.ntmps82
  go_wp2_with (go_at_call 110; (with_reducible refine HX.out.mono ?_); rintro e w2 ⟨rfl, hb2⟩; have HB2 := Aside0.mk hb2; clear hb2)
  go_quiet (fail)
  go_wp2
  exact bodyPost_ret (v := .tuple #[.slice A0 l0.length c0, .slice (cutA A0 l0.length c0) (l0.length - l0.length) (c0 - l0.length)]) (by simp [results, Tryd.results82, go_sem]) rfl ⟨rfl, pw_below_drewN (((Below.refl _ _).alloc (Nat.le_refl _) _).trans (HB2.out.mono (by simp))) _⟩
theorem ints_lit {w : World} {g t : Nat} (l : List Int) (hl : l.length ≤ 9223372036854775807) (h : w.heap[g]? = some (.cells (l.map fun x => Value.int .i64 x).toArray t (0, 0))) : Kd.C (Kd.int .i64) w (some ⟨g, 0, none⟩) l.length l := by
 refine ⟨rfl, hl, fun _ => ⟨_, rfl, fun j p hj => ⟨[.int .i64 p], rfl, rfl, fun i u hu => ?_⟩⟩⟩
 cases i with
 | succ i => simp at hu
 | zero =>
  have hu : Value.int .i64 p = u := by simpa using hu
  rw [← hu, show (Kd.int .i64).sz = 1 from rfl, Nat.mul_one, Nat.add_zero, add_plain, blk_cell h]
  simp [hj]
theorem cut_walk_n (n : Nat) (A0 : Option Addr) (c0 : Nat) (l0 : List S88) (Ak : Option Addr) (ck : Nat) (ks : List Int) (w : World) (hn : ks.length = n) (hr : Kd.C k88 w A0 l0.length l0) (hc : l0.length ≤ c0)
  (hk : Kd.C (Kd.int .i64) w Ak ks.length ks) :
  Calls Tryd.prog 82 #[.slice A0 l0.length c0, .slice Ak n ck] w fun e w' => e = .returned (.tuple #[.slice A0 (cutAt ks l0) c0, .slice (cutA A0 (cutAt ks l0) c0) (l0.length - cutAt ks l0) (c0 - cutAt ks l0)]) ∧ Below w.heap.size w w' := by
 subst hn
 exact cut_walk A0 c0 l0 Ak ck ks w hr hc hk
def wEnd (l : List S88) : Nat := cutAt [3, 5, 6] l
theorem wEnd_le (l : List S88) : wEnd l ≤ l.length := cutAt_le _ _
theorem head_walk (A0 : Option Addr) (c0 : Nat) (l0 : List S88) (b : Bool) (sc : Int) (w : World) (hr : Kd.C k88 w A0 l0.length l0) (hc : l0.length ≤ c0) :
  Calls Tryd.prog 54 #[.agg #[.slice A0 l0.length c0, .bool b, .int .i64 sc]] w fun e w' => e = .returned (.slice A0 (wEnd l0) c0) ∧ Below w.heap.size w w' := by
 have HR := Aside0.mk hr
 have HC := Aside0.mk hc
 clear hr hc
 have HX := Aside0.mk (cut_walk_n 3 A0 c0 l0 (some ⟨w.heap.size + 1, 0, none⟩) 3 [3, 5, 6] ((w.alloc (.cells #[.slice A0 l0.length c0, .bool b, .int .i64 sc] 62 (0, 0))).alloc (.cells #[.int .i64 3, .int .i64 5, .int .i64 6] 3 (0, 0))) rfl
  (Kd.C_below HR.out (((Below.refl _ _).alloc (Nat.le_refl _) _).alloc (by simp) _)) HC.out (ints_lit (t := 3) [3, 5, 6] (by decide) (by have := heap_alloc_new (w.alloc (.cells #[.slice A0 l0.length c0, .bool b, .int .i64 sc] 62 (0, 0))) (.cells #[.int .i64 3, .int .i64 5, .int .i64 6] 3 (0, 0)); simpa using this)))
 rw [← wEnd] at HX
 generalize wEnd l0 = i at *
 go_enter Tryd.func54, Tryd.ntmps54
 go_wp2_with (go_at_call 82; (with_reducible refine HX.out.mono ?_); rintro e w2 ⟨rfl, hb2⟩; have HB2 := Aside0.mk hb2; clear hb2)
 go_ret
 exact ⟨rfl, (((Below.refl _ _).alloc (Nat.le_refl _) _).alloc (by simp) _).trans (HB2.out.mono (by simp; omega))⟩
end Go.Proofs.YtmbhjogohfcjgaaDoor.P
