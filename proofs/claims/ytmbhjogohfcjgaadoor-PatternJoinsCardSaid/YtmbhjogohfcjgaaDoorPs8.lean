/- The walk of pattern.indexes and of slices.Collect over what it hands back: the numbers from 0 on. -/
import Derived.Test.YtmbhjogohfcjgaaDoorPs7
import Derived.RangeFuncNested
import Derived.RangeFuncBound
import Derived.RangeFuncCalls
import Derived.RangeFuncLeaves
import Derived.Shelf.Abstract
import Derived.Shelf.RegionOpen
import Derived.OwnWalkIn
import Derived.TacticsInMore
import Derived.LoopNIn
import Derived.LoopIn
import Derived.Shelf.SlIterI.Collect
namespace Go.Proofs.YtmbhjogohfcjgaaDoor.P
open Go.RowKit Go.Shelf Go.Proofs.YtmbhjogohfcjgaaDoorW.PrintWords
set_option linter.unusedVariables false
set_option linter.unusedSimpArgs false
def coll_ren : Go.Shelf.Ren := ⟨fun | 8 => 87 | 11 => 113 | n => n, fun | 0 => 0 | 24 => 23 | 26 => 3 | 28 => 151 | 33 => 128 | n => n, fun n => n⟩
theorem coll_lays : SlLaysZI.n8 Tryd.prog coll_ren := {
 mixed := by kernel_rfl
 f8 := ⟨"slices.Collect[int]", by decide, Tryd.func87.trans (congrArg some (by kernel_rfl))⟩
 f11 := ⟨"slices.AppendSeq[[]int,int]", by decide, Tryd.func113.trans (congrArg some (by kernel_rfl))⟩
 t0 := Tryd.underlying0
 a0 := Tryd.isAgg0
 z0 := Tryd.sizeOf0
 v0 := Tryd.zeroValue0
 t24 := Tryd.underlying23
 a24 := Tryd.isAgg23
 z24 := Tryd.sizeOf23
 v24 := Tryd.zeroValue23
 t26 := Tryd.underlying3
 a26 := Tryd.isAgg3
 z26 := Tryd.sizeOf3
 v26 := Tryd.zeroValue3
 t28 := Tryd.underlying151
 a28 := Tryd.isAgg151
 z28 := Tryd.sizeOf151
 v28 := Tryd.zeroValue151
 i26 := by kernel_rfl }
theorem indexes_walk (m : Int) (w : World) :
  Calls Tryd.prog 88 #[.int .i64 m] w fun e w' => e = .returned (.func (.func 114) #[] #[.pointer (some ⟨w.heap.size, 0, none⟩)]) ∧ w.alloc (.cells #[.int .i64 m] 3 (0, 0)) = w' := by
 have hmf : ∀ (fn : Fn) (first cap : Array Value) (w : World), (Instr.makeFunc fn first cap).run Tryd.prog w = .ok (.func fn first cap) w := fun _ _ _ _ => rfl
 go_enter Tryd.func88, Tryd.ntmps88
 go_wp2
 go_ret
 exact ⟨rfl, rfl⟩
def upTo (m : Nat) : List Int := (List.range m).map fun (i : Nat) => (i : Int)
theorem upTo_succ (m : Nat) : upTo (m + 1) = upTo m ++ [(m : Int)] := by simp [upTo, List.range_succ]
theorem upTo_len (m : Nat) : (upTo m).length = m := by simp [upTo]
set_option maxHeartbeats 1000000 in
theorem indexes_gives (F : Fence) (n : Nat) (hf : F.fn 114) (hro : F.round = none) (hn : 1 ≤ n) (Bm m : Nat) (hm : m ≤ 9223372036854775807) (w : World) (hBm : Bm < w.heap.size) (hc : w.cell? ⟨Bm, 0, none⟩ = some (.int .i64 m)) :
  SeqGives F n Tryd.prog 114 #[.pointer (some ⟨Bm, 0, none⟩)] encZ (fun ss => ss = upTo m) m w := fun l J W hW hJ hY h0 => by
 have hcW := (hW.cell (p := ⟨Bm, 0, none⟩) hBm).trans hc
 refine callsIn_of_wp Tryd.func114 rfl hf ?_ hro
 simp only [Tryd.ntmps114, List.size_toArray, List.length_cons, List.length_nil, Nat.reduceAdd, Nat.reduceSub, Array.replicate_succ, Array.replicate_zero, List.push_toArray, List.append_toArray, List.nil_append, List.cons_append]
 gi_wp2
 gi_loopw [5] (fun i wr => ∃ k : Nat, k ≤ m ∧ i = .int .i64 k ∧ J (upTo k) wr) (fun i _ => m - (Go.RowKit.intOf i).toNat)
 case atStart => exact ⟨0, Nat.zero_le _, rfl, h0⟩
 case round =>
  obtain ⟨k, hk, rfl, hJk⟩ := hrel
  by_cases hlt : k < m
  ·obtain ⟨fn, tmps, assign, body, hy, hR⟩ := hY (upTo k) (k : Int) wr hJk (by rw [upTo_len]; exact hlt)
   dsimp only [encZ] at hy
   gi_wp2
   refine hR.mono ?_
   rintro e W3 ⟨rfl, hJ3, hk3⟩
   gi_wp2
   go_roundw
   case rel => exact ⟨k + 1, by omega, by go_num, by rw [upTo_succ]; exact hJ3⟩
   case measure => simp [Go.RowKit.intOf]; omega
  ·obtain rfl : k = m := by omega
   gi_wp2
   go_end0
   exact ⟨⟨_, rfl⟩, _, rfl, hJk⟩
end Go.Proofs.YtmbhjogohfcjgaaDoor.P
