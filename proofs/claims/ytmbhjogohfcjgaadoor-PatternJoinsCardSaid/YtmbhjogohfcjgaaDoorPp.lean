/- The walk of (Section).print. -/
import Derived.Test.YtmbhjogohfcjgaaDoorPs2
import Derived.Test.YtmbhjogohfcjgaaDoorP10
namespace Go.Proofs.YtmbhjogohfcjgaaDoor.P
open Go.RowKit Go.Proofs.YtmbhjogohfcjgaaDoorW.PrintWords Go.Proofs.YtmbhjogohfcjgaaDoorW.PrintLast Go.Proofs.YtmbhjogohfcjgaaDoorW.PrintMore
set_option linter.unusedVariables false
set_option linter.unusedSimpArgs false
def sgnOf (x : S88) : ByteArray := (pattern_Item_sign.f x.f0 x.f1).getD ⟨#[]⟩
theorem sgnOf_some {x : S88} (h : x.f1.size ≤ 1000) : pattern_Item_sign.f x.f0 x.f1 = some (sgnOf x) := by
 have : ∃ r, pattern_Item_sign.f x.f0 x.f1 = some r := by
  unfold pattern_Item_sign.f strings_Contains.f
  rw [if_pos (show (⟨#[32, 45, 43, 40, 41, 58]⟩ : ByteArray).size < 4294967281 by decide)]
  simp only [Option.bind_some, show (1 + x.f1.size ≤ 9223372036854775807) = True from eq_true (by omega), if_true]
  repeat' split
  all_goals exact ⟨_, rfl⟩
 obtain ⟨r, hr⟩ := this
 unfold sgnOf
 rw [hr]; rfl
theorem sgnOf_size {x : S88} (h : x.f1.size ≤ 1000) : (sgnOf x).size ≤ 1001 := by
 have hs := sgnOf_some h
 generalize sgnOf x = r at hs
 unfold pattern_Item_sign.f strings_Contains.f at hs
 rw [if_pos (show (⟨#[32, 45, 43, 40, 41, 58]⟩ : ByteArray).size < 4294967281 by decide)] at hs
 simp only [Option.bind_some, show (1 + x.f1.size ≤ 9223372036854775807) = True from eq_true (by omega), if_true] at hs
 repeat' (first | split at hs | (obtain rfl := Option.some.inj hs; first | (rw [ByteArray.size_append]; show 1 + _ ≤ _; omega) | (show _ ≤ 1001; omega) | decide))
def repB (sc : Int) : ByteArray := ⟨(Lib.repeatL [44] sc.toNat).toArray⟩
theorem repB_some {sc : Int} (h0 : 0 ≤ sc) (h1 : sc ≤ 1000) : strings_Repeat.f ⟨#[44]⟩ sc = some (repB sc) := by
 unfold strings_Repeat.f repB
 rw [if_pos ⟨h0, by omega, by show 1 * sc.toNat ≤ _; omega⟩]
theorem repB_size {sc : Int} (h0 : 0 ≤ sc) (h1 : sc ≤ 1000) : (repB sc).size ≤ 1000 := by
 unfold repB
 show (Lib.repeatL [44] sc.toNat).length ≤ 1000
 rw [Lib.repeatL_length]; simp; omega
def lastUp (l : List S88) : Nat → Int
 | 0 => -1
 | n + 1 => if (rd_T88 l (n : Int)).f0 = 2 then (n : Int) else lastUp l n
def prUp (l : List S88) (pair last sc : Int) : Nat → ByteArray
 | 0 => ⟨#[]⟩
 | n + 1 => if (n : Int) = last then (if (n : Int) = pair then prUp l pair last sc n ++ sgnOf (rd_T88 l (n : Int)) ++ ⟨#[44]⟩ else prUp l pair last sc n ++ sgnOf (rd_T88 l (n : Int))) ++ repB sc
  else (if (n : Int) = pair then prUp l pair last sc n ++ sgnOf (rd_T88 l (n : Int)) ++ ⟨#[44]⟩ else prUp l pair last sc n ++ sgnOf (rd_T88 l (n : Int)))
def printOf (l : List S88) (b : Bool) (sc : Int) : ByteArray := prUp l (if b = true then pairOf l else -1) (lastUp l (wEnd l)) sc l.length
theorem small_at {l : List S88} (hl : ∀ x ∈ l, x.f1.size ≤ 1000) {n : Nat} (h : n < l.length) : (rd_T88 l (n : Int)).f1.size ≤ 1000 := by
 rw [rd_T88, Int.toNat_natCast, List.getD_eq_getElem?_getD, List.getElem?_eq_getElem h]
 exact hl _ (List.getElem_mem h)
theorem prUp_size {l : List S88} (hl : ∀ x ∈ l, x.f1.size ≤ 1000) {sc : Int} (h0 : 0 ≤ sc) (h1 : sc ≤ 1000) (pair last : Int) : ∀ n, n ≤ l.length → (prUp l pair last sc n).size ≤ n * 2002
 | 0, _ => by rw [Nat.zero_mul]; exact Nat.le_of_eq rfl
 | n + 1, h => by
  have ih := prUp_size hl h0 h1 pair last n (by omega)
  have hs := sgnOf_size (small_at hl (show n < l.length by omega))
  have hr := repB_size h0 h1
  have h44 : (⟨#[44]⟩ : ByteArray).size = 1 := rfl
  rw [prUp]
  split <;> split <;> simp only [ByteArray.size_append, h44] <;> omega
set_option maxRecDepth 100000 in
set_option maxHeartbeats 16000000 in
theorem print_walk_false (A0 : Option Addr) (c0 : Nat) (l0 : List S88) (sc : Int) (w : World) (hGL : GL w) (hn : l0.length ≤ 1000000) (hl : ∀ x ∈ l0, x.f1.size ≤ 1000) (hs0 : 0 ≤ sc) (hs1 : sc ≤ 1000) (hr : Kd.C k88 w A0 l0.length l0) (hc : l0.length ≤ c0) :
  Calls Tryd.prog 62 #[.agg #[.slice A0 l0.length c0, .bool false, .int .i64 sc]] w fun e w' => e = .returned (.string (printOf l0 false sc)) ∧ Below w.heap.size w w' := by
 have h1 := (Below.refl w.heap.size w).alloc (Nat.le_refl _) (.cells #[.slice A0 l0.length c0, .bool false, .int .i64 sc] 62 (0, 0))
 have HG1 := Aside0.mk (heap_alloc_new w (.cells #[.slice A0 l0.length c0, .bool false, .int .i64 sc] 62 (0, 0)))
 have HB1 := Aside0.mk h1
 have HR := Aside0.mk hr
 have HC := Aside0.mk hc
 have HGL := Aside0.mk hGL
 have HL := Aside0.mk hl
 have HH := Aside0.mk (fun W (hW : Below w.heap.size w W) => head_walk A0 c0 l0 false sc W (Kd.C_below HR.out hW) HC.out)
 have HP := Aside0.mk (fun W (hW : Below w.heap.size w W) => pair_walk A0 c0 l0 false sc W (Kd.C_below HR.out hW) HC.out)
 have hwl := wEnd_le l0
 have HS := Aside0.mk (fun k (hk : k ≤ l0.length) => prUp_size hl hs0 hs1 (-1) (lastUp l0 (wEnd l0)) k hk)
 have hpr : printOf l0 false sc = prUp l0 (-1) (lastUp l0 (wEnd l0)) sc l0.length := rfl
 rw [hpr]
 clear hr hGL h1 hl hpr
 generalize hwe : wEnd l0 = n at *
 have HWE := Aside0.mk hwe
 clear hwe
 go_enter Tryd.func62, Tryd.ntmps62
 go_wp2_with (first | (go_at_call 55; (with_reducible refine (HP.out _ HB1.out).mono ?_); rintro e w2 ⟨rfl, hb2⟩; have HB2 := Aside0.mk (HB1.out.trans (hb2.mono HB1.out.size)); have HG2 := Aside0.mk (blk_below HG1.out hb2); clear hb2; have hcw2_0 : w2.cell? ⟨w.heap.size, 0, none⟩ = some (.slice A0 l0.length c0) := (blk_cell HG2.out 0).trans rfl; have hcw2_1 : w2.cell? ⟨w.heap.size, 1, none⟩ = some (.bool false) := (blk_cell HG2.out 1).trans rfl; have hcw2_2 : w2.cell? ⟨w.heap.size, 2, none⟩ = some (.int .i64 sc) := (blk_cell HG2.out 2).trans rfl; have hzw2 := blk_lt HG2.out) | (go_at_call 54; (with_reducible refine (HH.out _ HB1.out).mono ?_); rintro e w3 ⟨rfl, hb3⟩; have HB3 := Aside0.mk (HB1.out.trans (hb3.mono HB1.out.size)); have HG3 := Aside0.mk (blk_below HG1.out hb3); clear hb3))
 go_loopw [5, 17] (fun last i w' => ∃ k : Nat, k ≤ n ∧ i = .int .i64 k ∧ last = .int .i64 (lastUp l0 k) ∧ Aside0 (w'.heap[w.heap.size]? = some (.cells #[.slice A0 l0.length c0, .bool false, .int .i64 sc] 62 (0, 0))) ∧ Aside0 (Below w.heap.size w w')) (fun _ i _ => n - (intOf i).toNat)
 case atStart => exact ⟨0, Nat.zero_le _, rfl, rfl, HG3, HB3⟩
 case round =>
  clear HG3 HB3
  obtain ⟨k, hk, rfl, rfl, HG, HB⟩ := hrel
  by_cases hlt : k < n
  ·have hlt' : (k : Int) < (n : Int) := by omega
   obtain ⟨ad, e, hx0, hx1⟩ := at_T88 HR.out (k : Int) (by omega) (by omega)
   cases e
   rw [Int.toNat_natCast] at hx0 hx1
   replace hx0 := (HB.out.cell (World.block_lt_of_cell? w _ hx0)).trans hx0
   replace hx1 := (HB.out.cell (World.block_lt_of_cell? w _ hx1)).trans hx1
   have HB1' := Aside0.mk (below_alloc HB.out (.cells #[.int .i64 (rd_T88 l0 (k : Int)).f0, .string (rd_T88 l0 (k : Int)).f1] 88 (0, 0)))
   have HG1' := Aside0.mk (blk_alloc HG.out (.cells #[.int .i64 (rd_T88 l0 (k : Int)).f0, .string (rd_T88 l0 (k : Int)).f1] 88 (0, 0)))
   by_cases h2 : (rd_T88 l0 (k : Int)).f0 = 2
   ·have h2b : ((rd_T88 l0 (k : Int)).f0 == 2) = true := beq_iff_eq.mpr h2
    have H2 := Aside0.mk h2
    clear h2
    go_wp2
    go_roundw
    case rel => exact ⟨k + 1, by omega, by go_num, by rw [lastUp, if_pos H2.out], HG1', HB1'⟩
    case measure => simp [intOf]; omega
   ·have h2b : ((rd_T88 l0 (k : Int)).f0 == 2) = false := beq_eq_false_iff_ne.mpr h2
    have H2 := Aside0.mk h2
    clear h2
    go_wp2
    go_roundw
    case rel => exact ⟨k + 1, by omega, by go_num, by rw [lastUp, if_neg H2.out], HG1', HB1'⟩
    case measure => simp [intOf]; omega
  ·obtain rfl : k = n := by omega
   have hcb0 : _ = some (Value.slice A0 l0.length c0) := (blk_cell HG.out 0).trans rfl
   go_wp2
   generalize hq : lastUp l0 k = q at *
   have HQ := Aside0.mk hq
   clear hq
   go_loopw [3, 30] (fun out i w' => ∃ j : Nat, j ≤ l0.length ∧ i = .int .i64 j ∧ out = .string (prUp l0 (-1) q sc j) ∧ Aside0 (w'.heap[w.heap.size]? = some (.cells #[.slice A0 l0.length c0, .bool false, .int .i64 sc] 62 (0, 0))) ∧ Aside0 (Below w.heap.size w w')) (fun _ i _ => l0.length - (intOf i).toNat)
   case atStart => exact ⟨0, Nat.zero_le _, rfl, rfl, HG, HB⟩
   case round =>
    clear HG HB
    obtain ⟨j, hj, rfl, rfl, HG, HB⟩ := hrel
    by_cases hlt : j < l0.length
    ·obtain ⟨ad, e, hx0, hx1⟩ := at_T88 HR.out (j : Int) (by omega) (by omega)
     cases e
     rw [Int.toNat_natCast] at hx0 hx1
     replace hx0 := (HB.out.cell (World.block_lt_of_cell? w _ hx0)).trans hx0
     replace hx1 := (HB.out.cell (World.block_lt_of_cell? w _ hx1)).trans hx1
     have HBx := Aside0.mk (below_alloc HB.out (.cells #[.int .i64 (rd_T88 l0 (j : Int)).f0, .string (rd_T88 l0 (j : Int)).f1] 88 (0, 0)))
     have HGx := Aside0.mk (blk_alloc HG.out (.cells #[.int .i64 (rd_T88 l0 (j : Int)).f0, .string (rd_T88 l0 (j : Int)).f1] 88 (0, 0)))
     have hsz := small_at HL.out hlt
     have HSG := Aside0.mk (fun W (hW : Below w.heap.size w W) => pattern_Item_sign.calls _ _ _ W (HGL.out.below hW) (sgnOf_some hsz))
     have HRP := Aside0.mk (fun W => strings_Repeat.calls _ _ _ W (repB_some hs0 hs1))
     have hs1' := HS.out j (by omega)
     have hs2' := sgnOf_size hsz
     have hs3' := repB_size hs0 hs1
     have h44 : (⟨#[44]⟩ : ByteArray).size = 1 := rfl
     have q1 : (prUp l0 (-1) q sc j).size + (sgnOf (rd_T88 l0 (j : Int))).size ≤ 9223372036854775807 := by omega
     have q2 : (prUp l0 (-1) q sc j ++ sgnOf (rd_T88 l0 (j : Int))).size + (⟨#[44]⟩ : ByteArray).size ≤ 9223372036854775807 := by rw [ByteArray.size_append, h44]; omega
     have q3 : (prUp l0 (-1) q sc j ++ sgnOf (rd_T88 l0 (j : Int))).size + (repB sc).size ≤ 9223372036854775807 := by rw [ByteArray.size_append]; omega
     have q4 : (prUp l0 (-1) q sc j ++ sgnOf (rd_T88 l0 (j : Int)) ++ (⟨#[44]⟩ : ByteArray)).size + (repB sc).size ≤ 9223372036854775807 := by rw [ByteArray.size_append, ByteArray.size_append, h44]; omega
     have HPR := Aside0.mk (show prUp l0 (-1) q sc (j + 1) = _ from prUp.eq_2 l0 (-1) q sc j)
     clear hsz hs1' hs2' hs3' h44
     generalize prUp l0 (-1) q sc j = s0 at *
     generalize sgnOf (rd_T88 l0 (j : Int)) = s1 at *
     generalize repB sc = s2 at *
     have hpb : ((j : Int) == -1) = false := beq_eq_false_iff_ne.mpr (by omega)
     by_cases hl : (j : Int) = q
     ·have hlb : ((j : Int) == q) = true := beq_iff_eq.mpr hl
      have HLA := Aside0.mk hl
      clear hl
      go_wp2_with (first | (go_at_call 90; (with_reducible refine (HSG.out _ HBx.out).mono ?_); rintro e w5 ⟨rfl, hb5⟩; have HB5 := Aside0.mk (HBx.out.trans (hb5.mono HBx.out.size)); have HG5 := Aside0.mk (blk_below HGx.out hb5); clear hb5; have hc5 : w5.cell? ⟨w.heap.size, 2, none⟩ = some (.int .i64 sc) := (blk_cell HG5.out 2).trans rfl) | (go_at_call 78; (with_reducible refine (HRP.out _).mono ?_); rintro e w6 ⟨rfl, hb6⟩; have HB6 := Aside0.mk (HB5.out.trans (hb6.mono HB5.out.size)); have HG6 := Aside0.mk (blk_below HG5.out hb6); clear hb6))
      go_roundw
      case rel => exact ⟨j + 1, by omega, by go_num, by rw [HPR.out, if_pos HLA.out, if_neg (by omega)], HG6, HB6⟩
      case measure => simp [intOf]; omega
     ·have hlb : ((j : Int) == q) = false := beq_eq_false_iff_ne.mpr hl
      have HLA := Aside0.mk hl
      clear hl
      go_wp2_with (first | (go_at_call 90; (with_reducible refine (HSG.out _ HBx.out).mono ?_); rintro e w5 ⟨rfl, hb5⟩; have HB5 := Aside0.mk (HBx.out.trans (hb5.mono HBx.out.size)); have HG5 := Aside0.mk (blk_below HGx.out hb5); clear hb5; have hc5 : w5.cell? ⟨w.heap.size, 2, none⟩ = some (.int .i64 sc) := (blk_cell HG5.out 2).trans rfl))
      go_roundw
      case rel => exact ⟨j + 1, by omega, by go_num, by rw [HPR.out, if_neg HLA.out, if_neg (by omega)], HG5, HB5⟩
      case measure => simp [intOf]; omega
    ·obtain rfl : j = l0.length := by omega
     go_wp2
     go_ret
     exact ⟨by rw [HQ.out]; rfl, HB.out⟩
set_option maxRecDepth 100000 in
set_option maxHeartbeats 16000000 in
theorem print_walk_true (A0 : Option Addr) (c0 : Nat) (l0 : List S88) (sc : Int) (w : World) (hGL : GL w) (hn : l0.length ≤ 1000000) (hl : ∀ x ∈ l0, x.f1.size ≤ 1000) (hs0 : 0 ≤ sc) (hs1 : sc ≤ 1000) (hr : Kd.C k88 w A0 l0.length l0) (hc : l0.length ≤ c0) :
  Calls Tryd.prog 62 #[.agg #[.slice A0 l0.length c0, .bool true, .int .i64 sc]] w fun e w' => e = .returned (.string (printOf l0 true sc)) ∧ Below w.heap.size w w' := by
 have h1 := (Below.refl w.heap.size w).alloc (Nat.le_refl _) (.cells #[.slice A0 l0.length c0, .bool true, .int .i64 sc] 62 (0, 0))
 have HG1 := Aside0.mk (heap_alloc_new w (.cells #[.slice A0 l0.length c0, .bool true, .int .i64 sc] 62 (0, 0)))
 have HB1 := Aside0.mk h1
 have HR := Aside0.mk hr
 have HC := Aside0.mk hc
 have HGL := Aside0.mk hGL
 have HL := Aside0.mk hl
 have HH := Aside0.mk (fun W (hW : Below w.heap.size w W) => head_walk A0 c0 l0 true sc W (Kd.C_below HR.out hW) HC.out)
 have HP := Aside0.mk (fun W (hW : Below w.heap.size w W) => pair_walk A0 c0 l0 true sc W (Kd.C_below HR.out hW) HC.out)
 have hwl := wEnd_le l0
 have HS := Aside0.mk (fun k (hk : k ≤ l0.length) => prUp_size hl hs0 hs1 (pairOf l0) (lastUp l0 (wEnd l0)) k hk)
 have hpr : printOf l0 true sc = prUp l0 (pairOf l0) (lastUp l0 (wEnd l0)) sc l0.length := rfl
 rw [hpr]
 clear hr hGL h1 hl hpr
 generalize hwe : wEnd l0 = n at *
 have HWE := Aside0.mk hwe
 clear hwe
 go_enter Tryd.func62, Tryd.ntmps62
 go_wp2_with (first | (go_at_call 55; (with_reducible refine (HP.out _ HB1.out).mono ?_); rintro e w2 ⟨rfl, hb2⟩; have HB2 := Aside0.mk (HB1.out.trans (hb2.mono HB1.out.size)); have HG2 := Aside0.mk (blk_below HG1.out hb2); clear hb2; have hcw2_0 : w2.cell? ⟨w.heap.size, 0, none⟩ = some (.slice A0 l0.length c0) := (blk_cell HG2.out 0).trans rfl; have hcw2_1 : w2.cell? ⟨w.heap.size, 1, none⟩ = some (.bool true) := (blk_cell HG2.out 1).trans rfl; have hcw2_2 : w2.cell? ⟨w.heap.size, 2, none⟩ = some (.int .i64 sc) := (blk_cell HG2.out 2).trans rfl; have hzw2 := blk_lt HG2.out) | (go_at_call 54; (with_reducible refine (HH.out _ HB2.out).mono ?_); rintro e w3 ⟨rfl, hb3⟩; have HB3 := Aside0.mk (HB2.out.trans (hb3.mono HB2.out.size)); have HG3 := Aside0.mk (blk_below HG2.out hb3); clear hb3))
 go_loopw [5, 17] (fun last i w' => ∃ k : Nat, k ≤ n ∧ i = .int .i64 k ∧ last = .int .i64 (lastUp l0 k) ∧ Aside0 (w'.heap[w.heap.size]? = some (.cells #[.slice A0 l0.length c0, .bool true, .int .i64 sc] 62 (0, 0))) ∧ Aside0 (Below w.heap.size w w')) (fun _ i _ => n - (intOf i).toNat)
 case atStart => exact ⟨0, Nat.zero_le _, rfl, rfl, HG3, HB3⟩
 case round =>
  clear HG3 HB3
  obtain ⟨k, hk, rfl, rfl, HG, HB⟩ := hrel
  by_cases hlt : k < n
  ·have hlt' : (k : Int) < (n : Int) := by omega
   obtain ⟨ad, e, hx0, hx1⟩ := at_T88 HR.out (k : Int) (by omega) (by omega)
   cases e
   rw [Int.toNat_natCast] at hx0 hx1
   replace hx0 := (HB.out.cell (World.block_lt_of_cell? w _ hx0)).trans hx0
   replace hx1 := (HB.out.cell (World.block_lt_of_cell? w _ hx1)).trans hx1
   have HB1' := Aside0.mk (below_alloc HB.out (.cells #[.int .i64 (rd_T88 l0 (k : Int)).f0, .string (rd_T88 l0 (k : Int)).f1] 88 (0, 0)))
   have HG1' := Aside0.mk (blk_alloc HG.out (.cells #[.int .i64 (rd_T88 l0 (k : Int)).f0, .string (rd_T88 l0 (k : Int)).f1] 88 (0, 0)))
   by_cases h2 : (rd_T88 l0 (k : Int)).f0 = 2
   ·have h2b : ((rd_T88 l0 (k : Int)).f0 == 2) = true := beq_iff_eq.mpr h2
    have H2 := Aside0.mk h2
    clear h2
    go_wp2
    go_roundw
    case rel => exact ⟨k + 1, by omega, by go_num, by rw [lastUp, if_pos H2.out], HG1', HB1'⟩
    case measure => simp [intOf]; omega
   ·have h2b : ((rd_T88 l0 (k : Int)).f0 == 2) = false := beq_eq_false_iff_ne.mpr h2
    have H2 := Aside0.mk h2
    clear h2
    go_wp2
    go_roundw
    case rel => exact ⟨k + 1, by omega, by go_num, by rw [lastUp, if_neg H2.out], HG1', HB1'⟩
    case measure => simp [intOf]; omega
  ·obtain rfl : k = n := by omega
   have hcb0 : _ = some (Value.slice A0 l0.length c0) := (blk_cell HG.out 0).trans rfl
   go_wp2
   generalize hq : lastUp l0 k = q at *
   have HQ := Aside0.mk hq
   clear hq
   go_loopw [3, 30] (fun out i w' => ∃ j : Nat, j ≤ l0.length ∧ i = .int .i64 j ∧ out = .string (prUp l0 (pairOf l0) q sc j) ∧ Aside0 (w'.heap[w.heap.size]? = some (.cells #[.slice A0 l0.length c0, .bool true, .int .i64 sc] 62 (0, 0))) ∧ Aside0 (Below w.heap.size w w')) (fun _ i _ => l0.length - (intOf i).toNat)
   case atStart => exact ⟨0, Nat.zero_le _, rfl, rfl, HG, HB⟩
   case round =>
    clear HG HB
    obtain ⟨j, hj, rfl, rfl, HG, HB⟩ := hrel
    by_cases hlt : j < l0.length
    ·obtain ⟨ad, e, hx0, hx1⟩ := at_T88 HR.out (j : Int) (by omega) (by omega)
     cases e
     rw [Int.toNat_natCast] at hx0 hx1
     replace hx0 := (HB.out.cell (World.block_lt_of_cell? w _ hx0)).trans hx0
     replace hx1 := (HB.out.cell (World.block_lt_of_cell? w _ hx1)).trans hx1
     have HBx := Aside0.mk (below_alloc HB.out (.cells #[.int .i64 (rd_T88 l0 (j : Int)).f0, .string (rd_T88 l0 (j : Int)).f1] 88 (0, 0)))
     have HGx := Aside0.mk (blk_alloc HG.out (.cells #[.int .i64 (rd_T88 l0 (j : Int)).f0, .string (rd_T88 l0 (j : Int)).f1] 88 (0, 0)))
     have hsz := small_at HL.out hlt
     have HSG := Aside0.mk (fun W (hW : Below w.heap.size w W) => pattern_Item_sign.calls _ _ _ W (HGL.out.below hW) (sgnOf_some hsz))
     have HRP := Aside0.mk (fun W => strings_Repeat.calls _ _ _ W (repB_some hs0 hs1))
     have hs1' := HS.out j (by omega)
     have hs2' := sgnOf_size hsz
     have hs3' := repB_size hs0 hs1
     have h44 : (⟨#[44]⟩ : ByteArray).size = 1 := rfl
     have q1 : (prUp l0 (pairOf l0) q sc j).size + (sgnOf (rd_T88 l0 (j : Int))).size ≤ 9223372036854775807 := by omega
     have q2 : (prUp l0 (pairOf l0) q sc j ++ sgnOf (rd_T88 l0 (j : Int))).size + (⟨#[44]⟩ : ByteArray).size ≤ 9223372036854775807 := by rw [ByteArray.size_append, h44]; omega
     have q3 : (prUp l0 (pairOf l0) q sc j ++ sgnOf (rd_T88 l0 (j : Int))).size + (repB sc).size ≤ 9223372036854775807 := by rw [ByteArray.size_append]; omega
     have q4 : (prUp l0 (pairOf l0) q sc j ++ sgnOf (rd_T88 l0 (j : Int)) ++ (⟨#[44]⟩ : ByteArray)).size + (repB sc).size ≤ 9223372036854775807 := by rw [ByteArray.size_append, ByteArray.size_append, h44]; omega
     have HPR := Aside0.mk (show prUp l0 (pairOf l0) q sc (j + 1) = _ from prUp.eq_2 l0 (pairOf l0) q sc j)
     clear hsz hs1' hs2' hs3' h44
     generalize prUp l0 (pairOf l0) q sc j = s0 at *
     generalize sgnOf (rd_T88 l0 (j : Int)) = s1 at *
     generalize repB sc = s2 at *
     by_cases hl : (j : Int) = q
     ·have hlb : ((j : Int) == q) = true := beq_iff_eq.mpr hl
      have HLA := Aside0.mk hl
      clear hl
      by_cases hp : (j : Int) = (pairOf l0)
      ·have hpb : ((j : Int) == (pairOf l0)) = true := beq_iff_eq.mpr hp
       have HPA := Aside0.mk hp
       clear hp
       go_wp2_with (first | (go_at_call 90; (with_reducible refine (HSG.out _ HBx.out).mono ?_); rintro e w5 ⟨rfl, hb5⟩; have HB5 := Aside0.mk (HBx.out.trans (hb5.mono HBx.out.size)); have HG5 := Aside0.mk (blk_below HGx.out hb5); clear hb5; have hc5 : w5.cell? ⟨w.heap.size, 2, none⟩ = some (.int .i64 sc) := (blk_cell HG5.out 2).trans rfl) | (go_at_call 78; (with_reducible refine (HRP.out _).mono ?_); rintro e w6 ⟨rfl, hb6⟩; have HB6 := Aside0.mk (HB5.out.trans (hb6.mono HB5.out.size)); have HG6 := Aside0.mk (blk_below HG5.out hb6); clear hb6))
       go_roundw
       case rel => exact ⟨j + 1, by omega, by go_num, by rw [HPR.out, if_pos HLA.out, if_pos HPA.out], HG6, HB6⟩
       case measure => simp [intOf]; omega
      ·have hpb : ((j : Int) == (pairOf l0)) = false := beq_eq_false_iff_ne.mpr hp
       have HPA := Aside0.mk hp
       clear hp
       go_wp2_with (first | (go_at_call 90; (with_reducible refine (HSG.out _ HBx.out).mono ?_); rintro e w5 ⟨rfl, hb5⟩; have HB5 := Aside0.mk (HBx.out.trans (hb5.mono HBx.out.size)); have HG5 := Aside0.mk (blk_below HGx.out hb5); clear hb5; have hc5 : w5.cell? ⟨w.heap.size, 2, none⟩ = some (.int .i64 sc) := (blk_cell HG5.out 2).trans rfl) | (go_at_call 78; (with_reducible refine (HRP.out _).mono ?_); rintro e w6 ⟨rfl, hb6⟩; have HB6 := Aside0.mk (HB5.out.trans (hb6.mono HB5.out.size)); have HG6 := Aside0.mk (blk_below HG5.out hb6); clear hb6))
       go_roundw
       case rel => exact ⟨j + 1, by omega, by go_num, by rw [HPR.out, if_pos HLA.out, if_neg HPA.out], HG6, HB6⟩
       case measure => simp [intOf]; omega
     ·have hlb : ((j : Int) == q) = false := beq_eq_false_iff_ne.mpr hl
      have HLA := Aside0.mk hl
      clear hl
      by_cases hp : (j : Int) = (pairOf l0)
      ·have hpb : ((j : Int) == (pairOf l0)) = true := beq_iff_eq.mpr hp
       have HPA := Aside0.mk hp
       clear hp
       go_wp2_with (first | (go_at_call 90; (with_reducible refine (HSG.out _ HBx.out).mono ?_); rintro e w5 ⟨rfl, hb5⟩; have HB5 := Aside0.mk (HBx.out.trans (hb5.mono HBx.out.size)); have HG5 := Aside0.mk (blk_below HGx.out hb5); clear hb5; have hc5 : w5.cell? ⟨w.heap.size, 2, none⟩ = some (.int .i64 sc) := (blk_cell HG5.out 2).trans rfl))
       go_roundw
       case rel => exact ⟨j + 1, by omega, by go_num, by rw [HPR.out, if_neg HLA.out, if_pos HPA.out], HG5, HB5⟩
       case measure => simp [intOf]; omega
      ·have hpb : ((j : Int) == (pairOf l0)) = false := beq_eq_false_iff_ne.mpr hp
       have HPA := Aside0.mk hp
       clear hp
       go_wp2_with (first | (go_at_call 90; (with_reducible refine (HSG.out _ HBx.out).mono ?_); rintro e w5 ⟨rfl, hb5⟩; have HB5 := Aside0.mk (HBx.out.trans (hb5.mono HBx.out.size)); have HG5 := Aside0.mk (blk_below HGx.out hb5); clear hb5; have hc5 : w5.cell? ⟨w.heap.size, 2, none⟩ = some (.int .i64 sc) := (blk_cell HG5.out 2).trans rfl))
       go_roundw
       case rel => exact ⟨j + 1, by omega, by go_num, by rw [HPR.out, if_neg HLA.out, if_neg HPA.out], HG5, HB5⟩
       case measure => simp [intOf]; omega
    ·obtain rfl : j = l0.length := by omega
     go_wp2
     go_ret
     exact ⟨by rw [HQ.out]; rfl, HB.out⟩
def pattern_Section_print.f (l0_0 : List (S88)) (a0_1 : Bool) (a0_2 : Int) : Option (ByteArray) := if (l0_0.length ≤ 1000000 ∧ l0_0.all (fun x => decide (x.f1.size ≤ 1000)) = true) ∧ 0 ≤ a0_2 ∧ a0_2 ≤ 1000 then some (printOf l0_0 a0_1 a0_2) else none
theorem pattern_Section_print.calls (A0_0 : Option Addr) (c0_0 : Nat) (l0_0 : List (S88)) (a0_1 : Bool) (a0_2 : Int) (r : ByteArray) (w : World) (hGL : GL w) (hr0_0 : Kd.C k88 w A0_0 l0_0.length l0_0) (hc0_0 : l0_0.length ≤ c0_0) (h : pattern_Section_print.f l0_0 a0_1 a0_2 = some r) :
  Calls Tryd.prog 62 #[.agg #[.slice A0_0 l0_0.length c0_0, .bool a0_1, .int .i64 a0_2]] w fun e w' => e = .returned (.string r) ∧ Below w.heap.size w w' := by
 unfold pattern_Section_print.f at h
 by_cases hl : (l0_0.length ≤ 1000000 ∧ l0_0.all (fun x => decide (x.f1.size ≤ 1000)) = true) ∧ 0 ≤ a0_2 ∧ a0_2 ≤ 1000
 ·rw [if_pos hl] at h
  obtain rfl := Option.some.inj h
  have hs : ∀ x ∈ l0_0, x.f1.size ≤ 1000 := fun x hx => of_decide_eq_true (List.all_eq_true.1 hl.1.2 x hx)
  cases a0_1
  ·exact print_walk_false A0_0 c0_0 l0_0 a0_2 w hGL hl.1.1 hs hl.2.1 hl.2.2 hr0_0 hc0_0
  ·exact print_walk_true A0_0 c0_0 l0_0 a0_2 w hGL hl.1.1 hs hl.2.1 hl.2.2 hr0_0 hc0_0
 ·rw [if_neg hl] at h; exact absurd h (by simp)
end Go.Proofs.YtmbhjogohfcjgaaDoor.P
