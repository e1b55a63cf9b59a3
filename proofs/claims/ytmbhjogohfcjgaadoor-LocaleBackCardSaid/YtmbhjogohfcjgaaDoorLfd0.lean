/- The walks of locale.Find, printed by wip/tools/genfind.py: for each of the six names, and for any other one. -/
import Derived.Test.YtmbhjogohfcjgaaDoorL0
import Derived.Deep.RegionHeld3
namespace Go.Proofs.YtmbhjogohfcjgaaDoor.L
open Go.RowKit

/-- What the package variables hold: the locales' names and signs; the library's bound. -/
structure GL (w : World) : Prop where
  size : 5 ≤ w.heap.size
  n0 : w.cell? ⟨0, 0, none⟩ = some (.string ⟨#[99, 104]⟩)
  n1 : w.cell? ⟨0, 1, none⟩ = some (.string ⟨#[100, 101]⟩)
  n2 : w.cell? ⟨0, 2, none⟩ = some (.string ⟨#[101, 110]⟩)
  n3 : w.cell? ⟨0, 3, none⟩ = some (.string ⟨#[102, 114]⟩)
  n4 : w.cell? ⟨0, 4, none⟩ = some (.string ⟨#[104, 105]⟩)
  n5 : w.cell? ⟨0, 5, none⟩ = some (.string ⟨#[115, 118]⟩)
  s0_0 : w.cell? ⟨1, 0, none⟩ = some (.string ⟨#[46]⟩)
  s0_1 : w.cell? ⟨1, 1, none⟩ = some (.string ⟨#[226, 128, 153]⟩)
  s0_2 : w.cell? ⟨1, 2, none⟩ = some (.string ⟨#[59]⟩)
  s0_3 : w.cell? ⟨1, 3, none⟩ = some (.string ⟨#[45]⟩)
  s0_4 : w.cell? ⟨1, 4, none⟩ = some (.string ⟨#[67, 72, 70]⟩)
  s1_0 : w.cell? ⟨1, 5, none⟩ = some (.string ⟨#[44]⟩)
  s1_1 : w.cell? ⟨1, 6, none⟩ = some (.string ⟨#[46]⟩)
  s1_2 : w.cell? ⟨1, 7, none⟩ = some (.string ⟨#[59]⟩)
  s1_3 : w.cell? ⟨1, 8, none⟩ = some (.string ⟨#[45]⟩)
  s1_4 : w.cell? ⟨1, 9, none⟩ = some (.string ⟨#[226, 130, 172]⟩)
  s2_0 : w.cell? ⟨1, 10, none⟩ = some (.string ⟨#[46]⟩)
  s2_1 : w.cell? ⟨1, 11, none⟩ = some (.string ⟨#[44]⟩)
  s2_2 : w.cell? ⟨1, 12, none⟩ = some (.string ⟨#[44]⟩)
  s2_3 : w.cell? ⟨1, 13, none⟩ = some (.string ⟨#[45]⟩)
  s2_4 : w.cell? ⟨1, 14, none⟩ = some (.string ⟨#[36]⟩)
  s3_0 : w.cell? ⟨1, 15, none⟩ = some (.string ⟨#[44]⟩)
  s3_1 : w.cell? ⟨1, 16, none⟩ = some (.string ⟨#[226, 128, 175]⟩)
  s3_2 : w.cell? ⟨1, 17, none⟩ = some (.string ⟨#[59]⟩)
  s3_3 : w.cell? ⟨1, 18, none⟩ = some (.string ⟨#[45]⟩)
  s3_4 : w.cell? ⟨1, 19, none⟩ = some (.string ⟨#[226, 130, 172]⟩)
  s4_0 : w.cell? ⟨1, 20, none⟩ = some (.string ⟨#[46]⟩)
  s4_1 : w.cell? ⟨1, 21, none⟩ = some (.string ⟨#[44]⟩)
  s4_2 : w.cell? ⟨1, 22, none⟩ = some (.string ⟨#[44]⟩)
  s4_3 : w.cell? ⟨1, 23, none⟩ = some (.string ⟨#[45]⟩)
  s4_4 : w.cell? ⟨1, 24, none⟩ = some (.string ⟨#[226, 130, 185]⟩)
  s5_0 : w.cell? ⟨1, 25, none⟩ = some (.string ⟨#[44]⟩)
  s5_1 : w.cell? ⟨1, 26, none⟩ = some (.string ⟨#[194, 160]⟩)
  s5_2 : w.cell? ⟨1, 27, none⟩ = some (.string ⟨#[59]⟩)
  s5_3 : w.cell? ⟨1, 28, none⟩ = some (.string ⟨#[226, 136, 146]⟩)
  s5_4 : w.cell? ⟨1, 29, none⟩ = some (.string ⟨#[107, 114]⟩)
  m : ∃ m, w.cell? ⟨4, 0, none⟩ = some (.int .i64 m)

theorem GL.below {w w' : World} (h : GL w) (hb : Below w.heap.size w w') : GL w' := by
  have c : ∀ a : Addr, a.block < 5 → w'.cell? a = w.cell? a := fun a ha => hb.cell (p := a) (Nat.lt_of_lt_of_le ha h.size)
  exact { size := Nat.le_trans h.size hb.size, n0 := (c _ (by decide)).trans h.n0, n1 := (c _ (by decide)).trans h.n1, n2 := (c _ (by decide)).trans h.n2, n3 := (c _ (by decide)).trans h.n3, n4 := (c _ (by decide)).trans h.n4, n5 := (c _ (by decide)).trans h.n5, s0_0 := (c _ (by decide)).trans h.s0_0, s0_1 := (c _ (by decide)).trans h.s0_1, s0_2 := (c _ (by decide)).trans h.s0_2, s0_3 := (c _ (by decide)).trans h.s0_3, s0_4 := (c _ (by decide)).trans h.s0_4, s1_0 := (c _ (by decide)).trans h.s1_0, s1_1 := (c _ (by decide)).trans h.s1_1, s1_2 := (c _ (by decide)).trans h.s1_2, s1_3 := (c _ (by decide)).trans h.s1_3, s1_4 := (c _ (by decide)).trans h.s1_4, s2_0 := (c _ (by decide)).trans h.s2_0, s2_1 := (c _ (by decide)).trans h.s2_1, s2_2 := (c _ (by decide)).trans h.s2_2, s2_3 := (c _ (by decide)).trans h.s2_3, s2_4 := (c _ (by decide)).trans h.s2_4, s3_0 := (c _ (by decide)).trans h.s3_0, s3_1 := (c _ (by decide)).trans h.s3_1, s3_2 := (c _ (by decide)).trans h.s3_2, s3_3 := (c _ (by decide)).trans h.s3_3, s3_4 := (c _ (by decide)).trans h.s3_4, s4_0 := (c _ (by decide)).trans h.s4_0, s4_1 := (c _ (by decide)).trans h.s4_1, s4_2 := (c _ (by decide)).trans h.s4_2, s4_3 := (c _ (by decide)).trans h.s4_3, s4_4 := (c _ (by decide)).trans h.s4_4, s5_0 := (c _ (by decide)).trans h.s5_0, s5_1 := (c _ (by decide)).trans h.s5_1, s5_2 := (c _ (by decide)).trans h.s5_2, s5_3 := (c _ (by decide)).trans h.s5_3, s5_4 := (c _ (by decide)).trans h.s5_4, m := h.m.imp fun _ hm => (c _ (by decide)).trans hm }
theorem keep_alloc {w : World} {a : Addr} {v : Value} (o : Obj) (h : w.cell? a = some v) : (w.alloc o).cell? a = some v := by
  rw [World.cell?_alloc_lt _ _ _ (World.block_lt_of_cell? w a h)]; exact h
theorem keep_drew {w : World} {a : Addr} {v : Value} (h : w.cell? a = some v) : w.drew.cell? a = some v := h
theorem heap_at3 (w : World) (A B C : Obj) : (((w.alloc A).alloc B).alloc C).drew.heap[w.heap.size + 1 + 1]? = some C := by
  show (((w.heap.push A).push B).push C)[w.heap.size + 1 + 1]? = some C
  rw [Array.getElem?_push, if_pos (by simp only [Array.size_push])]
theorem heap_at2 (w : World) (A B C : Obj) : (((w.alloc A).alloc B).alloc C).drew.heap[w.heap.size + 1]? = some B := by
  show (((w.heap.push A).push B).push C)[w.heap.size + 1]? = some B
  rw [Array.getElem?_push, if_neg (by simp only [Array.size_push]; omega), Array.getElem?_push, if_pos (by simp only [Array.size_push])]
theorem heap_at4 (w : World) (A B C D : Obj) : ((((w.alloc A).alloc B).alloc C).drew.alloc D).heap[w.heap.size + 1 + 1 + 1]? = some D := by
  show ((((w.heap.push A).push B).push C).push D)[w.heap.size + 1 + 1 + 1]? = some D
  rw [Array.getElem?_push, if_pos (by simp only [Array.size_push])]
theorem below_at3 (w : World) (A B C : Obj) : Below w.heap.size w (((w.alloc A).alloc B).alloc C).drew :=
  ((((Below.refl _ _).alloc (Nat.le_refl _) _).alloc (by simp) _).alloc (by simp; omega) _).drew
theorem below_at4 (w : World) (A B C D : Obj) : Below w.heap.size w ((((w.alloc A).alloc B).alloc C).drew.alloc D) :=
  (below_at3 w A B C).alloc (by simp [World.drew]; omega) _
/-- What Find tells of a name. -/
def FindSays (w : World) (s : ByteArray) (f0 f1 f2 f3 f4 f5 : ByteArray) (b0 b1 : Bool) (l : List Int) (e : Ending) (w' : World) : Prop :=
  ∃ v : Value, e = .returned (.tuple #[.agg #[.string s, .string f0, .string f1, .string f2, .string f3, .string f4, .string f5, .bool b0, .bool b1, v], .int .i64 0]) ∧
    (∃ g, v = .slice (some ⟨g, 0, none⟩) l.length l.length ∧ w.heap.size ≤ g ∧ w'.heap[g]? = some (.cells ((l.map (Value.int .i64)).toArray) 3 (0, 0))) ∧ Below w.heap.size w w'

end Go.Proofs.YtmbhjogohfcjgaaDoor.L
