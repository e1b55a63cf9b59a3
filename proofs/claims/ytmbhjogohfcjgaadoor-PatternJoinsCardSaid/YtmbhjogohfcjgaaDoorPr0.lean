/- What the rows of chapter 13 list, as the walks want it; a pattern that is an argument; a world for the witness. -/
import Derived.Test.YtmbhjogohfcjgaaDoorCards
import Derived.Test.YtmbhjogohfcjgaaDoorTie
import Derived.Test.YtmbhjogohfcjgaaDoorPg
import Derived.Test.YtmbhjogohfcjgaaDoorSh2
import Derived.Test.YtmbhjogohfcjgaaDoorSh4
import Derived.Lib.LaidU8T
import Derived.Deep.Slices
import Derived.Deep.Strs
import Derived.ChangeSame
import Derived.ChangeArms
import Derived.Carry
import Derived.WalkKit
import Derived.ProofKit
import Derived.OpenShut
import Derived.ShutString
import Derived.SizedLaws
import Derived.Below
import Derived.Deep.DeepHandedRow
namespace Go.Proofs.YtmbhjogohfcjgaaDoor.Pr
open Go.Deep Go.ChangeShapes Go.WideShapes Go.ChangeAt Go.RowKit Go.Proofs.YtmbhjogohfcjgaaDoor.P Go.Proofs.YtmbhjogohfcjgaaDoorW.PrintWords
open Go.ChangeMaps (open_string shut_string)
set_option linter.unusedVariables false
theorem own : ownKnob Tryd.prog.godebug = none := by kernel_rfl
theorem laidOut : laidOutB Tryd.prog = true := by kernel_rfl
section
variable {H : Type} {enc : TypeId × Value → H} {w : World} {base : Nat} {held : Bool}
theorem row_open {α : Type} {R : α → List Value → Prop} {sz : Nat} {t e : TypeId} {fuel : Nat} {cs : List Value} {x : DataW H × List MemPlace} (ht : Tryd.prog.underlying t = some (.slice e)) (hc : Tryd.prog.cellsOf e = sz)
  (hel : ∀ n cs x, DataW.trod enc Tryd.prog w base (fun _ => true) held n e cs = some x → ∃ p, R p cs) (h : DataW.trod enc Tryd.prog w base (fun _ => true) held fuel t cs = some x) :
  ∃ A len cap ps, cs = [.slice A len cap] ∧ len ≤ cap ∧ ps.length = len ∧ ReadsRow R sz w A len ps := by
 rcases open_slice ht h with ⟨rfl, _⟩ | ⟨a, len, cap, m, n, D, Pl, rfl, _, hl, hcap, hm, _, hx⟩
 ·exact ⟨none, 0, 0, [], rfl, Nat.le_refl _, rfl, rfl, by omega, fun h => absurd h (by omega)⟩
 ·have hm' : m = cap := by rw [hm]; simp
  have hP : ∀ i, i < len → ∃ p cs', R p cs' ∧ w.cells? base (a.add (i * sz)) sz = some cs' := fun i hi => by
   obtain ⟨cs', h1, h2⟩ := hx i (by omega)
   rw [hc] at h1
   obtain ⟨p, hp⟩ := hel _ _ _ h2
   exact ⟨p, cs', hp, h1⟩
  have hmax : cap ≤ 9223372036854775807 := by unfold maxLen at hcap; omega
  refine ⟨some a, len, cap, List.ofFn (fun i : Fin len => Classical.choose (hP i.1 i.2)), rfl, hl, List.length_ofFn, List.length_ofFn, by omega, fun _ => ⟨a, rfl, fun j p hj => ?_⟩⟩
  rw [List.getElem?_ofFn] at hj
  by_cases hlt : j < len
  ·rw [dif_pos hlt] at hj
   obtain rfl := Option.some.inj hj
   obtain ⟨cs', hR, hcells⟩ := Classical.choose_spec (hP j hlt)
   obtain ⟨_, hlen, hcell⟩ := World.cells?_some hcells
   refine ⟨cs', hlen, hR, fun i u hu => ?_⟩
   have hi : i < sz := by
    rw [← hlen]
    rcases Nat.lt_or_ge i cs'.length with h1 | h1
    ·exact h1
    ·rw [List.getElem?_eq_none h1] at hu; cases hu
   rw [← Go.Deep.add_add, hcell i hi, hu]
  ·rw [dif_neg hlt] at hj; cases hj
set_option maxRecDepth 100000 in
theorem item_open {n : Nat} {cs : List Value} {x : DataW H × List MemPlace} (h : DataW.trod enc Tryd.prog w base (fun _ => true) held n 88 cs = some x) : ∃ p : S88, k88.K w p cs := by
 obtain ⟨y0, y1, n, _, hl, h0, h1⟩ := trod_struct2 Tryd.underlying88 h
 have c3 : Tryd.prog.cellsOf 3 = 1 := by kernel_rfl
 have c9 : Tryd.prog.cellsOf 9 = 1 := by kernel_rfl
 have c88 : Tryd.prog.cellsOf 88 = 2 := by kernel_rfl
 rw [c88] at hl
 simp only [c3, c9, List.drop_zero] at h0 h1
 obtain ⟨a, b, rfl⟩ : ∃ a b, cs = [a, b] := by
  match cs, hl with
  | [a, b], _ => exact ⟨a, b, rfl⟩
 obtain ⟨i, hi, _⟩ := DataW.trod_int Tryd.underlying3 h0
 obtain ⟨s, hs, _⟩ := DataW.trod_string Tryd.underlying9 h1
 have hi : [a] = [Value.int .i64 i] := hi
 have hs : [b] = [Value.string s] := hs
 obtain rfl : a = .int .i64 i := by injection hi
 obtain rfl : b = .string s := by injection hs
 exact ⟨⟨i, s⟩, k88_mk w ⟨i, s⟩⟩
set_option maxRecDepth 100000 in
theorem section_open {n : Nat} {cs : List Value} {x : DataW H × List MemPlace} (h : DataW.trod enc Tryd.prog w base (fun _ => true) held n 62 cs = some x) : ∃ p : S62, k62.K w p cs := by
 obtain ⟨y0, y1, y2, n, _, hl, h0, h1, h2⟩ := trod_struct3 Tryd.underlying62 h
 have c60 : Tryd.prog.cellsOf 60 = 1 := by kernel_rfl
 have c4 : Tryd.prog.cellsOf 4 = 1 := by kernel_rfl
 have c3 : Tryd.prog.cellsOf 3 = 1 := by kernel_rfl
 have c62 : Tryd.prog.cellsOf 62 = 3 := by kernel_rfl
 rw [c62] at hl
 simp only [c60, c4, c3, List.drop_zero] at h0 h1 h2
 obtain ⟨a, b, c, rfl⟩ : ∃ a b c, cs = [a, b, c] := by
  match cs, hl with
  | [a, b, c], _ => exact ⟨a, b, c, rfl⟩
 obtain ⟨A, len, cap, ps, ha, hcap, hpl, hrow⟩ := row_open (R := k88.K w) (sz := 2) Tryd.underlying60 (by kernel_rfl) (fun n cs x h => item_open h) h0
 obtain ⟨b', hb, _⟩ := DataW.trod_bool Tryd.underlying4 h1
 obtain ⟨i, hi, _⟩ := DataW.trod_int Tryd.underlying3 h2
 have ha : [a] = [Value.slice A len cap] := ha
 have hb : [b] = [Value.bool b'] := hb
 have hi : [c] = [Value.int .i64 i] := hi
 obtain rfl : a = .slice A len cap := by injection ha
 obtain rfl : b = .bool b' := by injection hb
 obtain rfl : c = .int .i64 i := by injection hi
 subst hpl
 exact ⟨⟨ps, b', i⟩, k62_mk w ⟨ps, b', i⟩ hcap hrow⟩
set_option maxRecDepth 100000 in
theorem pattern_open {v : Value} {d : DataW H} {ps : List MemPlace} {r : Reach} {b0 : Nat} (hv : Value.okWide Tryd.prog w r b0 55 v) (h : DataW.Trod enc Tryd.prog w base (fun _ => true) held 55 v d ps) :
  ∃ A cap l, v = .agg #[.slice A (List.length l) cap] ∧ List.length l ≤ cap ∧ Kd.C k62 w A (List.length l) l := by
 obtain ⟨cs, rfl, hsz⟩ := okWide_struct Tryd.underlying55 hv
 obtain ⟨fuel, hf⟩ := h
 obtain ⟨y0, n, _, hl, h0⟩ := trod_struct1 Tryd.underlying55 hf
 have c53 : Tryd.prog.cellsOf 53 = 1 := by kernel_rfl
 have c55 : Tryd.prog.cellsOf 55 = 1 := by kernel_rfl
 rw [c55] at hsz
 obtain ⟨a, rfl⟩ : ∃ a, cs = #[a] := by
  obtain ⟨l⟩ := cs
  match l, hsz with
  | [a], _ => exact ⟨a, rfl⟩
 simp only [c53, List.drop_zero] at h0
 obtain ⟨A, len, cap, l, ha, hcap, hpl, hrow⟩ := row_open (R := k62.K w) (sz := 3) Tryd.underlying53 (by kernel_rfl) (fun n cs x h => section_open h) h0
 have ha : [a] = [Value.slice A len cap] := ha
 obtain rfl : a = .slice A len cap := by injection ha
 subst hpl
 exact ⟨A, cap, l, rfl, hcap, hrow⟩
end
set_option maxRecDepth 1000000 in
theorem gl_of {W : World} (h : laidMetH Tryd.prog Rows.patternShapesRow.laid W) (hs : W.ShapedOpen Tryd.prog) : GL W := by
 obtain ⟨m, hm⟩ := Tryd.laysM155.s1_3 W hs
 have hsz : 4 < W.heap.size := World.block_lt_of_cell? W ⟨4, 0, none⟩ hm
 rw [MakeChecks.laidMetH_plain _ _ _ (by kernel_rfl)] at h
 exact ⟨hsz, utf8Tabs_of_readsT (U8Types.of196 Tryd.lays196) ⟨by kernel_rfl, by kernel_rfl, by kernel_rfl, by kernel_rfl, by kernel_rfl, by kernel_rfl, by kernel_rfl⟩ (Lib.laidMet.reads h (.tail _ (.head _))) (Lib.laidMet.reads h (.head _)), ⟨m, hm⟩⟩
noncomputable def withCells (cs : Array Value) : Obj → Obj
 | .cells _ t frozen => .cells cs t frozen
 | o => o
noncomputable def fCells : Array Value := (Go.Pinned.utf8FirstZ.map fun (n : Nat) => Value.int .u8 (n : Int)).toArray
noncomputable def aCells : Array Value := ([128, 191, 160, 191, 128, 159, 144, 191, 128, 143, 0, 0, 0, 0, 0, 0, 0, 0, 0, 0, 0, 0, 0, 0, 0, 0, 0, 0, 0, 0, 0, 0].map fun (n : Nat) => Value.int .u8 (n : Int)).toArray
noncomputable def laidWorld (os : Os) : World :=
 { World.holding Tryd.prog os ⟨#[], #[], []⟩ with heap := ((World.holding Tryd.prog os ⟨#[], #[], []⟩).heap.modify 2 (withCells fCells)).modify 3 (withCells aCells) }
theorem laid_met (os : Os) (args : Array Value) : laidMet Tryd.prog Rows.patternShapesRow.laid ((laidWorld os).forCall (fun _ _ => 0) ⟨#[], args, []⟩).memory :=
 laidMet_of_run' 8 (by kernel_rfl) (by kernel_rfl)
end Go.Proofs.YtmbhjogohfcjgaaDoor.Pr
