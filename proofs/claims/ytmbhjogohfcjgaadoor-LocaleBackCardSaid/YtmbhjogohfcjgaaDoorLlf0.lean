/- The law's find, walked for each of the six locales (printed by wip/tools/genlawfind.py): what is common. -/
import Derived.Test.YtmbhjogohfcjgaaDoorL2
import Derived.Deep.RegionHeld3
namespace Go.Proofs.YtmbhjogohfcjgaaDoor.L
open Go.RowKit Go.Proofs.YtmbhjogohfcjgaaDoorW.PrintWords
set_option linter.unusedVariables false
def allCells : Array Value := #[.string ⟨#[99, 104]⟩, .string ⟨#[46]⟩, .string ⟨#[226, 128, 153]⟩, .string ⟨#[59]⟩, .string ⟨#[45]⟩, .string ⟨#[37]⟩, .string ⟨#[67, 72, 70]⟩, .bool true, .bool true, .int .i64 3, .string ⟨#[100, 101]⟩, .string ⟨#[44]⟩, .string ⟨#[46]⟩, .string ⟨#[59]⟩, .string ⟨#[45]⟩, .string ⟨#[37]⟩, .string ⟨#[226, 130, 172]⟩, .bool false, .bool true, .int .i64 3, .string ⟨#[101, 110]⟩, .string ⟨#[46]⟩, .string ⟨#[44]⟩, .string ⟨#[44]⟩, .string ⟨#[45]⟩, .string ⟨#[37]⟩, .string ⟨#[36]⟩, .bool true, .bool false, .int .i64 3, .string ⟨#[102, 114]⟩, .string ⟨#[44]⟩, .string ⟨#[226, 128, 175]⟩, .string ⟨#[59]⟩, .string ⟨#[45]⟩, .string ⟨#[37]⟩, .string ⟨#[226, 130, 172]⟩, .bool false, .bool true, .int .i64 3, .string ⟨#[104, 105]⟩, .string ⟨#[46]⟩, .string ⟨#[44]⟩, .string ⟨#[44]⟩, .string ⟨#[45]⟩, .string ⟨#[37]⟩, .string ⟨#[226, 130, 185]⟩, .bool true, .bool false, .int .i64 2, .string ⟨#[115, 118]⟩, .string ⟨#[44]⟩, .string ⟨#[194, 160]⟩, .string ⟨#[59]⟩, .string ⟨#[226, 136, 146]⟩, .string ⟨#[37]⟩, .string ⟨#[107, 114]⟩, .bool false, .bool true, .int .i64 3]
set_option maxRecDepth 100000 in
set_option maxHeartbeats 1000000 in
theorem all_walk0 (w : World) : Calls Tryd.prog 25 #[] w fun e w' => e = .returned (.slice (some ⟨w.heap.size, 0, none⟩) 6 6) ∧ w' = w.alloc (.cells allCells 27) := by
  go_enter Tryd.func25, Tryd.ntmps25
  go_wp2
  go_ret
  exact ⟨rfl, rfl⟩
theorem all_walk (w : World) : Calls Tryd.prog 25 #[] w fun e w' => e = .returned (.slice (some ⟨w.heap.size, 0, none⟩) 6 6) ∧ Below w.heap.size w w' ∧ w'.heap[w.heap.size]? = some (.cells allCells 27 (0, 0)) :=
  (all_walk0 w).mono fun e w' ⟨he, hw⟩ => ⟨he, hw ▸ (Below.refl _ _).alloc (Nat.le_refl _) _, hw ▸ heap_alloc_new w _⟩
theorem pick_walk (a p : Int) (w : World) (h : tabardlaw11_pick.f a 6 = some p) : Calls Tryd.prog 39 #[.int .i64 a, .int .i64 6] w fun e w' => e = .returned (.int .i64 p) ∧ Below w.heap.size w w' :=
  (tabardlaw11_pick.calls a 6 p w h).mono fun e w' ⟨he, hd⟩ => ⟨he, by obtain ⟨n, rfl⟩ := hd.out; exact pw_below_drewN (Below.refl _ _) _⟩
theorem blk_cell_ {w : World} {g : Nat} {cs : Array Value} {t : Nat} (h : w.heap[g]? = some (.cells cs t (0, 0))) (j : Nat) : w.cell? ⟨g, j, none⟩ = cs[j]? := blk_cell h j
theorem keep_set {w : World} {a p : Addr} {v : Value} (u : Value) (hne : p.block ≠ a.block) (h : w.cell? a = some v) : (w.setCell p u).cell? a = some v := by
  rw [World.cell?_setCell_far w p a u hne]; exact h
theorem set10 {w : World} {p : Nat} {t : TypeId} {x0 x1 x2 x3 x4 x5 x6 x7 x8 x9 : Value} (h : w.heap[p]? = some (.cells #[x0, x1, x2, x3, x4, x5, x6, x7, x8, x9] t (0, 0))) (v0 v1 v2 v3 v4 v5 v6 v7 v8 v9 : Value) : ((((((((((w.setCell ⟨p, 0, none⟩ v0).setCell ⟨p, 1, none⟩ v1).setCell ⟨p, 2, none⟩ v2).setCell ⟨p, 3, none⟩ v3).setCell ⟨p, 4, none⟩ v4).setCell ⟨p, 5, none⟩ v5).setCell ⟨p, 6, none⟩ v6).setCell ⟨p, 7, none⟩ v7).setCell ⟨p, 8, none⟩ v8).setCell ⟨p, 9, none⟩ v9).heap[p]? = some (.cells #[v0, v1, v2, v3, v4, v5, v6, v7, v8, v9] t (0, 0)) := by
  simpa using (blk_set (blk_set (blk_set (blk_set (blk_set (blk_set (blk_set (blk_set (blk_set (blk_set h 0 v0) 1 v1) 2 v2) 3 v3) 4 v4) 5 v5) 6 v6) 7 v7) 8 v8) 9 v9)
theorem far10 {w : World} {g p : Nat} {t : TypeId} {cs : Array Value} (h : w.heap[g]? = some (.cells cs t (0, 0))) (hne : g ≠ p) (v0 v1 v2 v3 v4 v5 v6 v7 v8 v9 : Value) : ((((((((((w.setCell ⟨p, 0, none⟩ v0).setCell ⟨p, 1, none⟩ v1).setCell ⟨p, 2, none⟩ v2).setCell ⟨p, 3, none⟩ v3).setCell ⟨p, 4, none⟩ v4).setCell ⟨p, 5, none⟩ v5).setCell ⟨p, 6, none⟩ v6).setCell ⟨p, 7, none⟩ v7).setCell ⟨p, 8, none⟩ v8).setCell ⟨p, 9, none⟩ v9).heap[g]? = some (.cells cs t (0, 0)) :=
  (blk_far (blk_far (blk_far (blk_far (blk_far (blk_far (blk_far (blk_far (blk_far (blk_far h hne v0) hne v1) hne v2) hne v3) hne v4) hne v5) hne v6) hne v7) hne v8) hne v9)
theorem below10 {W w : World} {B p : Nat} (h : Below B W w) (hB : B ≤ p) (v0 v1 v2 v3 v4 v5 v6 v7 v8 v9 : Value) : Below B W ((((((((((w.setCell ⟨p, 0, none⟩ v0).setCell ⟨p, 1, none⟩ v1).setCell ⟨p, 2, none⟩ v2).setCell ⟨p, 3, none⟩ v3).setCell ⟨p, 4, none⟩ v4).setCell ⟨p, 5, none⟩ v5).setCell ⟨p, 6, none⟩ v6).setCell ⟨p, 7, none⟩ v7).setCell ⟨p, 8, none⟩ v8).setCell ⟨p, 9, none⟩ v9) :=
  (Below.setCell (Below.setCell (Below.setCell (Below.setCell (Below.setCell (Below.setCell (Below.setCell (Below.setCell (Below.setCell (Below.setCell h hB v0) hB v1) hB v2) hB v3) hB v4) hB v5) hB v6) hB v7) hB v8) hB v9)
/-- What find tells: the six's rows. -/
def LawFinds (w : World) (s f0 f1 f2 f3 f4 f5 : ByteArray) (b0 b1 : Bool) (l : List Int) (k : Int) (e : Ending) (w' : World) : Prop :=
  ∃ v : Value, e = .returned (.tuple #[.agg #[.string s, .string f0, .string f1, .string f2, .string f3, .string f4, .string f5, .bool b0, .bool b1, v], .agg #[.string s, .string f0, .string f1, .string f2, .string f3, .string f4, .string f5, .bool b0, .bool b1, .int .i64 k]]) ∧
    (∃ g, v = .slice (some ⟨g, 0, none⟩) l.length l.length ∧ w.heap.size ≤ g ∧ w'.heap[g]? = some (.cells ((l.map (Value.int .i64)).toArray) 3 (0, 0))) ∧ Below w.heap.size w w'
end Go.Proofs.YtmbhjogohfcjgaaDoor.L
