/- utf8.ValidString's contract at this dump (written by the shelf's lay-plain; the theorem by hand). -/
import Derived.Shelf.Unicode.ValidAny
import Derived.Test.YtmbhjogohfcjgaaDoorProg
namespace Go.Proofs
open Go.Shelf
def Tryd.lays196_ren : Go.Shelf.Ren := ⟨fun | 196 => 95 | 259 => 119 | n => n, fun | 9 => 9 | 4 => 4 | 3 => 3 | 5 => 5 | 12 => 12 | 119 => 155 | 0 => 0 | 46 => 145 | 139 => 158 | 138 => 157 | 53 => 166 | n => n, fun | 3 => 2 | 4 => 3 | n => n⟩
theorem Tryd.lays196 : Go.Proofs.Lays.n196 Tryd.prog Tryd.lays196_ren := {
 mixed := by kernel_rfl
 f196 := Tryd.func95.trans (congrArg some (by kernel_rfl))
 f259 := Tryd.func119.trans (congrArg some (by kernel_rfl))
 t0 := Tryd.underlying0
 a0 := Tryd.isAgg0
 z0 := Tryd.sizeOf0
 v0 := Tryd.zeroValue0
 t3 := Tryd.underlying3
 a3 := Tryd.isAgg3
 z3 := Tryd.sizeOf3
 v3 := Tryd.zeroValue3
 t4 := Tryd.underlying4
 a4 := Tryd.isAgg4
 z4 := Tryd.sizeOf4
 v4 := Tryd.zeroValue4
 t5 := Tryd.underlying5
 a5 := Tryd.isAgg5
 z5 := Tryd.sizeOf5
 v5 := Tryd.zeroValue5
 t9 := Tryd.underlying9
 a9 := Tryd.isAgg9
 z9 := Tryd.sizeOf9
 v9 := Tryd.zeroValue9
 t12 := Tryd.underlying12
 a12 := Tryd.isAgg12
 z12 := Tryd.sizeOf12
 v12 := Tryd.zeroValue12
 t46 := Tryd.underlying145
 a46 := Tryd.isAgg145
 z46 := Tryd.sizeOf145
 v46 := Tryd.zeroValue145
 t53 := Tryd.underlying166
 a53 := Tryd.isAgg166
 z53 := Tryd.sizeOf166
 v53 := Tryd.zeroValue166
 t119 := Tryd.underlying155
 a119 := Tryd.isAgg155
 z119 := Tryd.sizeOf155
 t138 := Tryd.underlying157
 a138 := Tryd.isAgg157
 z138 := Tryd.sizeOf157
 v138 := Tryd.zeroValue157
 t139 := Tryd.underlying158
 a139 := Tryd.isAgg158
 z139 := Tryd.sizeOf158
 v139 := Tryd.zeroValue158
 g3 := by kernel_rfl
 g4 := by kernel_rfl }
open Go.RowKit in
theorem Tryd.utf8_ValidString (s : ByteArray) (w : World) (hs : s.size ≤ 9223372036854775807) (hT : Lib.Utf8Tabs 2 3 w) :
  Calls Tryd.prog 95 #[.string s] w fun e w' => e = .returned (.bool (Lib.validD s.data.toList)) ∧ Below w.heap.size w w' := Any.utf8_ValidString Tryd.lays196 s w hs hT
end Go.Proofs
