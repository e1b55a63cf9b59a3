/- What the rows of chapter 11 list, as the walks want it; a world for the witness. -/
import Derived.Test.YtmbhjogohfcjgaaDoorCards
import Derived.Test.YtmbhjogohfcjgaaDoorTie
import Derived.Test.YtmbhjogohfcjgaaDoorLfd0
import Derived.Test.YtmbhjogohfcjgaaDoorSh2
import Derived.WalkKit
import Derived.ProofKit
import Derived.OpenShut
import Derived.ShutString
import Derived.SizedLaws
import Derived.Below
import Derived.Deep.DeepHandedRow
namespace Go.Proofs.YtmbhjogohfcjgaaDoor.Lr
open Go.ChangeShapes Go.WideShapes Go.ChangeAt Go.RowKit Go.Proofs.YtmbhjogohfcjgaaDoor.L
open Go.ChangeMaps (open_string shut_string)
set_option linter.unusedVariables false

theorem own : ownKnob Tryd.prog.godebug = none := by kernel_rfl
theorem laidOut : laidOutB Tryd.prog = true := by kernel_rfl
theorem gN : Tryd.prog.globalNamed "tabard/locale.names" = some 0 := by kernel_rfl
theorem gS : Tryd.prog.globalNamed "tabard/locale.signs" = some 1 := by kernel_rfl
theorem tN : (Tryd.prog.globals[0]?).map (·.type) = some 82 := by kernel_rfl
theorem tS : (Tryd.prog.globals[1]?).map (·.type) = some 84 := by kernel_rfl

section
variable {H : Type} {enc : TypeId × Value → H} {P : Program} {w : World} {base : Nat} {spare : Nat → Bool} {held : Bool} {fuel : Nat} {t e : TypeId} {cs : List Value}
/-- An array of texts that reads as known texts holds just these. -/
theorem strings_of {n : Nat} {l : List (List UInt8)} {ps : List MemPlace} (ut : P.underlying t = some (.array n e)) (ue : P.underlying e = some .string) (ce : P.cellsOf e = 1) (ct : P.cellsOf t = n)
    (h : DataW.trod enc P w base spare held fuel t cs = some (.agg (l.map fun x => .lit (.string x)), ps)) : cs = l.map fun x => Value.string ⟨x.toArray⟩ := by
  obtain ⟨xs, m, rfl, hx, hlen, hn, hel⟩ := DataW.trod_array ut h
  simp only [Prod.mk.injEq, DataW.agg.injEq] at hx
  have hl : l.length = n := by have := congrArg List.length hx.1; simpa [hn] using this
  rw [ct] at hlen
  apply List.ext_getElem?
  intro i
  by_cases hi : i < n
  · have hi1 := hel i hi
    rw [ce, Nat.mul_one] at hi1
    obtain ⟨y, hy⟩ : ∃ y, xs[i]? = some y := ⟨_, List.getElem?_eq_getElem (by omega)⟩
    rw [hy] at hi1
    obtain ⟨s, hs, hyy, _⟩ := DataW.trod_string ue hi1
    have hd : (l.map fun x => (DataW.lit (.string x) : DataW H))[i]? = (xs.map (·.1))[i]? := by rw [hx.1]
    rw [List.getElem?_map, List.getElem?_map, hy, hyy] at hd
    obtain ⟨z, hz, hzz⟩ := Option.map_eq_some_iff.1 hd
    have hzs : z = s.data.toList := by simpa using hzz
    rw [List.getElem?_map, hz, hzs]
    have : cs[i]? = ((cs.drop i).take 1)[0]? := by simp
    rw [this, hs]
    rfl
  · rw [List.getElem?_eq_none (by omega), List.getElem?_eq_none (by simp; omega)]
end

set_option maxRecDepth 100000 in
theorem gl_of {W : World} (h : laidMetH Tryd.prog Rows.localeGroupsRow.laid W) (hs : W.ShapedOpen Tryd.prog) : GL W := by
  obtain ⟨m, hm⟩ := Tryd.laysM155.s1_3 W hs
  have hsz : 4 < W.heap.size := World.block_lt_of_cell? W ⟨4, 0, none⟩ hm
  rw [MakeChecks.laidMetH_plain _ _ _ (by kernel_rfl)] at h
  obtain ⟨ps, ⟨g0, t0, cs0, f0, p0, q0, hg0, ht0, hv0, hd0, ⟨g1, t1, cs1, f1, p1, q1, hg1, ht1, hv1, hd1, ⟨g2, t2, cs2, f2, p2, q2, hg2, ht2, hv2, hd2, hr⟩, _⟩, _⟩, _, _⟩ := h
  clear hd0 hv0 hr
  obtain rfl := Option.some.inj (gN.symm.trans hg1)
  obtain rfl := Option.some.inj (gS.symm.trans hg2)
  obtain rfl := Option.some.inj (tN.symm.trans ht1)
  obtain rfl := Option.some.inj (tS.symm.trans ht2)
  have hn := strings_of (l := [[99, 104], [100, 101], [101, 110], [102, 114], [104, 105], [115, 118]]) Tryd.underlying82 Tryd.underlying9 (by kernel_rfl) (by kernel_rfl) hd1
  have cN : ∀ i, W.cell? ⟨0, i, none⟩ = cs1.toList[i]? := fun i => by rw [World.var?_cell hg1 hv1 i]; simp
  obtain ⟨xs, k, rfl, hx, hlen, hxn, hel⟩ := DataW.trod_array Tryd.underlying84 hd2
  have c83 : Tryd.prog.cellsOf 83 = 5 := by kernel_rfl
  have cS : ∀ i j, j < 5 → W.cell? ⟨1, i * 5 + j, none⟩ = ((cs2.toList.drop (i * 5)).take 5)[j]? := fun i j hj => by
    rw [World.var?_cell hg2 hv2 (i * 5 + j), List.getElem?_take, if_pos hj, List.getElem?_drop]; simp
  simp only [Prod.mk.injEq, Rows.laid_tabard_locale_signs, DataW.agg.injEq] at hx
  have hrow : ∀ i, i < 6 → ∀ l : List (List UInt8), ((xs.map (·.1))[i]? = some (.agg (l.map fun x => .lit (.string x)))) → (cs2.toList.drop (i * 5)).take 5 = l.map fun x => Value.string ⟨x.toArray⟩ := fun i hi l hl => by
    have h1 := hel i hi
    rw [c83] at h1
    rw [List.getElem?_map] at hl
    obtain ⟨y, hy, hyy⟩ := Option.map_eq_some_iff.1 hl
    rw [hy] at h1
    obtain ⟨y1, y2⟩ := y
    subst hyy
    exact strings_of Tryd.underlying83 Tryd.underlying9 (by kernel_rfl) (by kernel_rfl) h1
  rw [← hx.1] at hrow
  have r0 := hrow 0 (by decide) [[46], [226, 128, 153], [59], [45], [67, 72, 70]] rfl
  have r1 := hrow 1 (by decide) [[44], [46], [59], [45], [226, 130, 172]] rfl
  have r2 := hrow 2 (by decide) [[46], [44], [44], [45], [36]] rfl
  have r3 := hrow 3 (by decide) [[44], [226, 128, 175], [59], [45], [226, 130, 172]] rfl
  have r4 := hrow 4 (by decide) [[46], [44], [44], [45], [226, 130, 185]] rfl
  have r5 := hrow 5 (by decide) [[44], [194, 160], [59], [226, 136, 146], [107, 114]] rfl
  have q0 : ∀ j, j < 5 → _ := fun j hj => (cS 0 j hj).trans (congrArg (·[j]?) r0)
  have q1 : ∀ j, j < 5 → _ := fun j hj => (cS 1 j hj).trans (congrArg (·[j]?) r1)
  have q2 : ∀ j, j < 5 → _ := fun j hj => (cS 2 j hj).trans (congrArg (·[j]?) r2)
  have q3 : ∀ j, j < 5 → _ := fun j hj => (cS 3 j hj).trans (congrArg (·[j]?) r3)
  have q4 : ∀ j, j < 5 → _ := fun j hj => (cS 4 j hj).trans (congrArg (·[j]?) r4)
  have q5 : ∀ j, j < 5 → _ := fun j hj => (cS 5 j hj).trans (congrArg (·[j]?) r5)
  rw [hn] at cN
  exact { size := hsz, n0 := cN 0, n1 := cN 1, n2 := cN 2, n3 := cN 3, n4 := cN 4, n5 := cN 5,
          s0_0 := q0 0 (by decide), s0_1 := q0 1 (by decide), s0_2 := q0 2 (by decide), s0_3 := q0 3 (by decide), s0_4 := q0 4 (by decide),
          s1_0 := q1 0 (by decide), s1_1 := q1 1 (by decide), s1_2 := q1 2 (by decide), s1_3 := q1 3 (by decide), s1_4 := q1 4 (by decide),
          s2_0 := q2 0 (by decide), s2_1 := q2 1 (by decide), s2_2 := q2 2 (by decide), s2_3 := q2 3 (by decide), s2_4 := q2 4 (by decide),
          s3_0 := q3 0 (by decide), s3_1 := q3 1 (by decide), s3_2 := q3 2 (by decide), s3_3 := q3 3 (by decide), s3_4 := q3 4 (by decide),
          s4_0 := q4 0 (by decide), s4_1 := q4 1 (by decide), s4_2 := q4 2 (by decide), s4_3 := q4 3 (by decide), s4_4 := q4 4 (by decide),
          s5_0 := q5 0 (by decide), s5_1 := q5 1 (by decide), s5_2 := q5 2 (by decide), s5_3 := q5 3 (by decide), s5_4 := q5 4 (by decide), m := ⟨m, hm⟩ }

/-- The cells that a listed datum of numbers and texts lays. -/
def cellsOf : List (List UInt8) → Array Value := fun l => (l.map fun x => Value.string ⟨x.toArray⟩).toArray
noncomputable def withCells (cs : Array Value) : Obj → Obj
  | .cells _ t frozen => .cells cs t frozen
  | o => o
noncomputable def nCells : Array Value := cellsOf [[99, 104], [100, 101], [101, 110], [102, 114], [104, 105], [115, 118]]
noncomputable def sCells : Array Value := cellsOf [[46], [226, 128, 153], [59], [45], [67, 72, 70], [44], [46], [59], [45], [226, 130, 172], [46], [44], [44], [45], [36], [44], [226, 128, 175], [59], [45], [226, 130, 172], [46], [44], [44], [45], [226, 130, 185], [44], [194, 160], [59], [226, 136, 146], [107, 114]]
noncomputable def fCells : Array Value := (Go.Pinned.utf8FirstZ.map fun (n : Nat) => Value.int .u8 (n : Int)).toArray
noncomputable def aCells : Array Value := ([128, 191, 160, 191, 128, 159, 144, 191, 128, 143, 0, 0, 0, 0, 0, 0, 0, 0, 0, 0, 0, 0, 0, 0, 0, 0, 0, 0, 0, 0, 0, 0].map fun (n : Nat) => Value.int .u8 (n : Int)).toArray
/-- A world for the witness: the settled one, the listed variables as they are listed. -/
noncomputable def laidWorld (os : Os) : World :=
  { World.holding Tryd.prog os ⟨#[], #[], []⟩ with heap := ((((World.holding Tryd.prog os ⟨#[], #[], []⟩).heap.modify 0 (withCells nCells)).modify 1 (withCells sCells)).modify 2 (withCells fCells)).modify 3 (withCells aCells) }
theorem laid_met (os : Os) (args : Array Value) : laidMet Tryd.prog Rows.localeGroupsRow.laid ((laidWorld os).forCall (fun _ _ => 0) ⟨#[], args, []⟩).memory :=
  laidMet_of_run' 8 (by kernel_rfl) (by kernel_rfl)
end Go.Proofs.YtmbhjogohfcjgaaDoor.Lr
