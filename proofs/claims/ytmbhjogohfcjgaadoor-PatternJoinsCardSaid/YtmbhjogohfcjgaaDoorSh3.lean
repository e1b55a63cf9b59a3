/-
 DERIVED: THE SHELF's CONTRACTS AT THIS DUMP, IN PLAIN WORDS (tools/lay-plain.mjs out of 'TrydShelf.lean', which tools/lay-shelf.mjs wrote): THE SAME DECLARATIONS UNDER THE SAME NAMES: 'import', 'namespace', 'open', 'def', 'theorem' AND NOTHING ELSE: no command of the shelf's: FOR A HAND-IN. Each laying: the table of numbers ('.._ren') and one theorem, a field a fact of the dump's own or the kernel's comparison; each contract: ONE APPLICATION.
-/
import Derived.Shelf.Strings.Builder1
import Derived.Shelf.Strings.Builder2
import Derived.Shelf.Strings.OnBuilder
import Derived.Shelf.Strings.Trim
import Derived.Shelf.Small.Utf8
import Derived.Shelf.Small.Strs
import Derived.Shelf.Strings.BuilderF
import Derived.Shelf.Utf8.RuneCount
import Derived.Shelf.Strings.Search1
import Derived.Shelf.Strings.Search2
import Derived.Shelf.Strings.Search3
import Derived.Shelf.Strings.Count
import Derived.Shelf.LaysM
import Derived.Shelf.Strings.Shaped
import Derived.Shelf.Strings.Prefix
import Derived.Shelf.Strings.Split
import Derived.Shelf.Strings.Replace
import Derived.Shelf.Strings.SplitShaped
import Derived.Shelf.Strings.Runes
import Derived.Shelf.Strings.AsciiSet
import Derived.Shelf.Bits.Mul64
import Derived.Shelf.Strings.Repeat
import Derived.Shelf.Unicode.DecodeSlow
import Derived.Shelf.Unicode.DecodeAny
import Derived.Shelf.Unicode.DecodeLast
import Derived.Shelf.Slices.Turned
import Derived.Test.YtmbhjogohfcjgaaDoorProg
namespace Go.Proofs
open Go.Shelf
def Tryd.lays156_ren : Go.Shelf.Ren := ⟨fun | 156 => 63 | 165 => 91 | 166 => 92 | 169 => 93 | 240 => 116 | 241 => 117 | 276 => 132 | 277 => 133 | n => n, fun | 31 => 45 | 9 => 9 | 3 => 3 | 4 => 4 | 0 => 0 | 20 => 20 | 72 => 131 | 76 => 135 | 70 => 129 | 37 => 77 | 75 => 134 | 127 => 153 | 164 => 170 | 5 => 5 | 80 => 102 | n => n, fun | n => n⟩
theorem Tryd.lays156 : Go.Proofs.Lays.n156 Tryd.prog Tryd.lays156_ren := {
 mixed := by kernel_rfl
 f156 := Tryd.func63.trans (congrArg some (by kernel_rfl))
 f165 := Tryd.func91.trans (congrArg some (by kernel_rfl))
 f166 := Tryd.func92.trans (congrArg some (by kernel_rfl))
 f169 := Tryd.func93.trans (congrArg some (by kernel_rfl))
 f240 := Tryd.func116.trans (congrArg some (by kernel_rfl))
 f241 := Tryd.func117.trans (congrArg some (by kernel_rfl))
 f276 := Tryd.func132.trans (congrArg some (by kernel_rfl))
 f277 := Tryd.func133.trans (congrArg some (by kernel_rfl))
 t0 := Tryd.underlying0
 a0 := Tryd.isAgg0
 z0 := Tryd.sizeOf0
 v0 := Tryd.zeroValue0
 t3 := Tryd.underlying3
 a3 := Tryd.isAgg3
 z3 := Tryd.sizeOf3
 v3 := Tryd.zeroValue3
 t4 := Tryd.underlying4
 a4 := Tryd.isAgg4
 z4 := Tryd.sizeOf4
 v4 := Tryd.zeroValue4
 t9 := Tryd.underlying9
 a9 := Tryd.isAgg9
 z9 := Tryd.sizeOf9
 v9 := Tryd.zeroValue9
 t20 := Tryd.underlying20
 a20 := Tryd.isAgg20
 z20 := Tryd.sizeOf20
 v20 := Tryd.zeroValue20
 t31 := Tryd.underlying45
 a31 := Tryd.isAgg45
 z31 := Tryd.sizeOf45
 v31 := Tryd.zeroValue45
 t37 := Tryd.underlying77
 a37 := Tryd.isAgg77
 z37 := Tryd.sizeOf77
 v37 := Tryd.zeroValue77
 t70 := Tryd.underlying129
 a70 := Tryd.isAgg129
 z70 := Tryd.sizeOf129
 v70 := Tryd.zeroValue129
 t72 := Tryd.underlying131
 a72 := Tryd.isAgg131
 z72 := Tryd.sizeOf131
 v72 := Tryd.zeroValue131
 t75 := Tryd.underlying134
 a75 := Tryd.isAgg134
 z75 := Tryd.sizeOf134
 v75 := Tryd.zeroValue134
 t76 := Tryd.underlying135
 a76 := Tryd.isAgg135
 z76 := Tryd.sizeOf135
 v76 := Tryd.zeroValue135
 t127 := Tryd.underlying153
 a127 := Tryd.isAgg153
 z127 := Tryd.sizeOf153
 v127 := Tryd.zeroValue153
 t164 := Tryd.underlying170
 a164 := Tryd.isAgg170
 z164 := Tryd.sizeOf170
 v164 := Tryd.zeroValue170 }
theorem Tryd.Builder_Extra_156 : Builder.Extra Tryd.prog Tryd.lays156_ren := {
 sizeBuilder := by kernel_rfl
 liesBuilder := by kernel_rfl
 t5 := Tryd.underlying5
 a5 := Tryd.isAgg5
 z5 := Tryd.sizeOf5
 v5 := Tryd.zeroValue5
 infoByte := by kernel_rfl
 cellsByte := by kernel_rfl
 sizeByte := by kernel_rfl
 neB5 := by decide }
open Go.RowKit in
theorem Tryd.strings_Join_none (a : Option Addr) (c : Nat) (sep : ByteArray) (w : World) :
  Calls Tryd.prog 63 #[.slice a 0 c, .string sep] w fun e w' => e = .returned (.string ⟨#[]⟩) ∧ w' = w := Any.strings_Join_none Tryd.lays156 Tryd.Builder_Extra_156 a c sep w
open Go.RowKit in
theorem Tryd.strings_Join (bk o c : Nat) (xs : List ByteArray) (sep : ByteArray) (w : World) (hcells : ∀ (j : Nat) x, xs[j]? = some x → w.cell? ⟨bk, o + j, none⟩ = some (.string x)) (hbk : bk < w.heap.size) (hN : xs.length ≤ 140737488355328) (hcap : xs.length ≤ c) (hlen : (Lib.join (xs.map (·.data.toList)) sep.data.toList).length ≤ 140737488355328) :
  Calls Tryd.prog 63 #[.slice (some ⟨bk, o, none⟩) xs.length c, .string sep] w fun e w' => e = .returned (.string ⟨(Lib.join (xs.map (·.data.toList)) sep.data.toList).toArray⟩) ∧ Below w.heap.size w w' := Any.strings_Join Tryd.lays156 Tryd.Builder_Extra_156 bk o c xs sep w hcells hbk hN hcap hlen
def Tryd.lays137_ren : Go.Shelf.Ren := ⟨fun | 137 => 94 | 217 => 118 | 266 => 134 | n => n, fun | 9 => 9 | 5 => 5 | 3 => 3 | n => n, fun | n => n⟩
theorem Tryd.lays137 : Go.Proofs.Lays.n137 Tryd.prog Tryd.lays137_ren := {
 mixed := by kernel_rfl
 f137 := Tryd.func94.trans (congrArg some (by kernel_rfl))
 f217 := Tryd.func118.trans (congrArg some (by kernel_rfl))
 f266 := Tryd.func134.trans (congrArg some (by kernel_rfl))
 t3 := Tryd.underlying3
 a3 := Tryd.isAgg3
 z3 := Tryd.sizeOf3
 v3 := Tryd.zeroValue3
 t5 := Tryd.underlying5
 a5 := Tryd.isAgg5
 z5 := Tryd.sizeOf5
 v5 := Tryd.zeroValue5
 t9 := Tryd.underlying9
 a9 := Tryd.isAgg9
 z9 := Tryd.sizeOf9
 v9 := Tryd.zeroValue9 }
open Go.RowKit in
theorem Tryd.strings_IndexByte (s : ByteArray) (c : Int) (w : World) :
  Calls Tryd.prog 94 #[.string s, .int .u8 c] w fun e w' => e = .returned (.int .i64 (Lib.indexByte s.data.toList c.toNat.toUInt8)) ∧ w' = w := Any.strings_IndexByte Tryd.lays137 s c w
def Tryd.lays144_ren : Go.Shelf.Ren := ⟨fun | 144 => 115 | 143 => 101 | 219 => 124 | 217 => 118 | 225 => 135 | 224 => 136 | 267 => 137 | 266 => 134 | 314 => 139 | n => n, fun | 9 => 9 | 4 => 4 | 3 => 3 | 5 => 5 | 46 => 145 | 146 => 164 | 51 => 163 | n => n, fun | 1 => 4 | n => n⟩
theorem Tryd.lays144 : Go.Proofs.Lays.n144 Tryd.prog Tryd.lays144_ren := {
 mixed := by kernel_rfl
 f143 := Tryd.func101.trans (congrArg some (by kernel_rfl))
 f144 := Tryd.func115.trans (congrArg some (by kernel_rfl))
 f217 := Tryd.func118.trans (congrArg some (by kernel_rfl))
 f219 := Tryd.func124.trans (congrArg some (by kernel_rfl))
 f224 := Tryd.func136.trans (congrArg some (by kernel_rfl))
 f225 := Tryd.func135.trans (congrArg some (by kernel_rfl))
 f266 := Tryd.func134.trans (congrArg some (by kernel_rfl))
 f267 := Tryd.func137.trans (congrArg some (by kernel_rfl))
 f314 := Tryd.func139.trans (congrArg some (by kernel_rfl))
 t3 := Tryd.underlying3
 a3 := Tryd.isAgg3
 z3 := Tryd.sizeOf3
 v3 := Tryd.zeroValue3
 t4 := Tryd.underlying4
 a4 := Tryd.isAgg4
 z4 := Tryd.sizeOf4
 v4 := Tryd.zeroValue4
 t5 := Tryd.underlying5
 a5 := Tryd.isAgg5
 z5 := Tryd.sizeOf5
 v5 := Tryd.zeroValue5
 t9 := Tryd.underlying9
 a9 := Tryd.isAgg9
 z9 := Tryd.sizeOf9
 v9 := Tryd.zeroValue9
 t46 := Tryd.underlying145
 a46 := Tryd.isAgg145
 z46 := Tryd.sizeOf145
 v46 := Tryd.zeroValue145
 t51 := Tryd.underlying163
 a51 := Tryd.isAgg163
 z51 := Tryd.sizeOf163
 v51 := Tryd.zeroValue163
 t146 := Tryd.underlying164
 a146 := Tryd.isAgg164
 z146 := Tryd.sizeOf164
 v146 := Tryd.zeroValue164
 g1 := by kernel_rfl }
open Go.RowKit Go.Lib in
theorem Tryd.strings_Contains (s sub : ByteArray) (m : Int) (w : World) (hs : s.size < 4294967281) (hm : w.cell? ⟨4, 0, none⟩ = some (.int .i64 m)) :
  Calls Tryd.prog 115 #[.string s, .string sub] w fun e w' => e = .returned (.bool (Lib.contains s.data.toList sub.data.toList)) ∧ w' = w := Any.strings_Contains Tryd.lays144 s sub m w hs hm
def Tryd.lays99_ren : Go.Shelf.Ren := ⟨fun | 99 => 107 | 206 => 130 | n => n, fun | 9 => 9 | 4 => 4 | 3 => 3 | n => n, fun | n => n⟩
theorem Tryd.lays99 : Go.Proofs.Lays.n99 Tryd.prog Tryd.lays99_ren := {
 mixed := by kernel_rfl
 f99 := Tryd.func107.trans (congrArg some (by kernel_rfl))
 f206 := Tryd.func130.trans (congrArg some (by kernel_rfl))
 t3 := Tryd.underlying3
 a3 := Tryd.isAgg3
 z3 := Tryd.sizeOf3
 v3 := Tryd.zeroValue3
 t4 := Tryd.underlying4
 a4 := Tryd.isAgg4
 z4 := Tryd.sizeOf4
 v4 := Tryd.zeroValue4
 t9 := Tryd.underlying9
 a9 := Tryd.isAgg9
 z9 := Tryd.sizeOf9
 v9 := Tryd.zeroValue9 }
open Go.RowKit Go.Lib in
theorem Tryd.strings_HasPrefix (s p : ByteArray) (w : World) :
  Calls Tryd.prog 107 #[.string s, .string p] w fun e w' => e = .returned (.bool (Lib.hasPrefix s.data.toList p.data.toList)) ∧ w' = w := Any.strings_HasPrefix Tryd.lays99 s p w
def Tryd.lays105_ren : Go.Shelf.Ren := ⟨fun | 105 => 78 | 212 => 106 | 99 => 107 | 165 => 91 | 166 => 92 | 170 => 108 | 169 => 93 | 263 => 128 | 264 => 129 | 206 => 130 | 240 => 116 | 241 => 117 | 276 => 132 | 277 => 133 | n => n, fun | 9 => 9 | 3 => 3 | 4 => 4 | 20 => 20 | 0 => 0 | 46 => 145 | 109 => 146 | 5 => 5 | 72 => 131 | 76 => 135 | 51 => 163 | 146 => 164 | 53 => 166 | 148 => 167 | 70 => 129 | 37 => 77 | 75 => 134 | 127 => 153 | 164 => 170 | 80 => 102 | n => n, fun | n => n⟩
theorem Tryd.lays105 : Go.Proofs.Lays.n105 Tryd.prog Tryd.lays105_ren := {
 mixed := by kernel_rfl
 f99 := Tryd.func107.trans (congrArg some (by kernel_rfl))
 f105 := Tryd.func78.trans (congrArg some (by kernel_rfl))
 f165 := Tryd.func91.trans (congrArg some (by kernel_rfl))
 f166 := Tryd.func92.trans (congrArg some (by kernel_rfl))
 f169 := Tryd.func93.trans (congrArg some (by kernel_rfl))
 f170 := Tryd.func108.trans (congrArg some (by kernel_rfl))
 f206 := Tryd.func130.trans (congrArg some (by kernel_rfl))
 f212 := Tryd.func106.trans (congrArg some (by kernel_rfl))
 f240 := Tryd.func116.trans (congrArg some (by kernel_rfl))
 f241 := Tryd.func117.trans (congrArg some (by kernel_rfl))
 f263 := Tryd.func128.trans (congrArg some (by kernel_rfl))
 f264 := Tryd.func129.trans (congrArg some (by kernel_rfl))
 f276 := Tryd.func132.trans (congrArg some (by kernel_rfl))
 f277 := Tryd.func133.trans (congrArg some (by kernel_rfl))
 t0 := Tryd.underlying0
 a0 := Tryd.isAgg0
 z0 := Tryd.sizeOf0
 v0 := Tryd.zeroValue0
 t3 := Tryd.underlying3
 a3 := Tryd.isAgg3
 z3 := Tryd.sizeOf3
 v3 := Tryd.zeroValue3
 t4 := Tryd.underlying4
 a4 := Tryd.isAgg4
 z4 := Tryd.sizeOf4
 v4 := Tryd.zeroValue4
 t5 := Tryd.underlying5
 a5 := Tryd.isAgg5
 z5 := Tryd.sizeOf5
 v5 := Tryd.zeroValue5
 t9 := Tryd.underlying9
 a9 := Tryd.isAgg9
 z9 := Tryd.sizeOf9
 v9 := Tryd.zeroValue9
 t20 := Tryd.underlying20
 a20 := Tryd.isAgg20
 z20 := Tryd.sizeOf20
 v20 := Tryd.zeroValue20
 t37 := Tryd.underlying77
 a37 := Tryd.isAgg77
 z37 := Tryd.sizeOf77
 v37 := Tryd.zeroValue77
 t46 := Tryd.underlying145
 a46 := Tryd.isAgg145
 z46 := Tryd.sizeOf145
 v46 := Tryd.zeroValue145
 t51 := Tryd.underlying163
 a51 := Tryd.isAgg163
 z51 := Tryd.sizeOf163
 v51 := Tryd.zeroValue163
 t53 := Tryd.underlying166
 a53 := Tryd.isAgg166
 z53 := Tryd.sizeOf166
 v53 := Tryd.zeroValue166
 t70 := Tryd.underlying129
 a70 := Tryd.isAgg129
 z70 := Tryd.sizeOf129
 v70 := Tryd.zeroValue129
 t72 := Tryd.underlying131
 a72 := Tryd.isAgg131
 z72 := Tryd.sizeOf131
 v72 := Tryd.zeroValue131
 t75 := Tryd.underlying134
 a75 := Tryd.isAgg134
 z75 := Tryd.sizeOf134
 v75 := Tryd.zeroValue134
 t76 := Tryd.underlying135
 a76 := Tryd.isAgg135
 z76 := Tryd.sizeOf135
 v76 := Tryd.zeroValue135
 t109 := Tryd.underlying146
 a109 := Tryd.isAgg146
 z109 := Tryd.sizeOf146
 v109 := Tryd.zeroValue146
 t127 := Tryd.underlying153
 a127 := Tryd.isAgg153
 z127 := Tryd.sizeOf153
 v127 := Tryd.zeroValue153
 t146 := Tryd.underlying164
 a146 := Tryd.isAgg164
 z146 := Tryd.sizeOf164
 v146 := Tryd.zeroValue164
 t148 := Tryd.underlying167
 a148 := Tryd.isAgg167
 z148 := Tryd.sizeOf167
 v148 := Tryd.zeroValue167
 t164 := Tryd.underlying170
 a164 := Tryd.isAgg170
 z164 := Tryd.sizeOf170
 v164 := Tryd.zeroValue170 }
theorem Tryd.Builder_Extra_105 : Builder.Extra Tryd.prog Tryd.lays105_ren := {
 sizeBuilder := by kernel_rfl
 liesBuilder := by kernel_rfl
 t5 := Tryd.underlying5
 a5 := Tryd.isAgg5
 z5 := Tryd.sizeOf5
 v5 := Tryd.zeroValue5
 infoByte := by kernel_rfl
 cellsByte := by kernel_rfl
 sizeByte := by kernel_rfl
 neB5 := by decide }
open Go.RowKit Go.Lib in
theorem Tryd.strings_Repeat (s : ByteArray) (c : Nat) (w : World) (hc : c ≤ 9223372036854775807) (hlen : s.size * c ≤ 140737488355328) :
  Calls Tryd.prog 78 #[.string s, .int .i64 c] w fun e w' => e = .returned (.string ⟨(Lib.repeatL s.data.toList c).toArray⟩) ∧ Below w.heap.size w w' := Any.strings_Repeat Tryd.lays105 Tryd.Builder_Extra_105 s c w hc hlen
def Tryd.lays197_ren : Go.Shelf.Ren := ⟨fun | 197 => 102 | 260 => 125 | n => n, fun | 9 => 9 | 21 => 21 | 3 => 3 | 4 => 4 | 5 => 5 | 105 => 142 | 119 => 155 | 0 => 0 | 46 => 145 | 139 => 158 | 138 => 157 | n => n, fun | 3 => 2 | 4 => 3 | n => n⟩
theorem Tryd.lays197 : Go.Proofs.Lays.n197 Tryd.prog Tryd.lays197_ren := {
 mixed := by kernel_rfl
 f197 := Tryd.func102.trans (congrArg some (by kernel_rfl))
 f260 := Tryd.func125.trans (congrArg some (by kernel_rfl))
 t0 := Tryd.underlying0
 a0 := Tryd.isAgg0
 z0 := Tryd.sizeOf0
 v0 := Tryd.zeroValue0
 t3 := Tryd.underlying3
 a3 := Tryd.isAgg3
 z3 := Tryd.sizeOf3
 v3 := Tryd.zeroValue3
 t4 := Tryd.underlying4
 a4 := Tryd.isAgg4
 z4 := Tryd.sizeOf4
 v4 := Tryd.zeroValue4
 t5 := Tryd.underlying5
 a5 := Tryd.isAgg5
 z5 := Tryd.sizeOf5
 v5 := Tryd.zeroValue5
 t9 := Tryd.underlying9
 a9 := Tryd.isAgg9
 z9 := Tryd.sizeOf9
 v9 := Tryd.zeroValue9
 t21 := Tryd.underlying21
 a21 := Tryd.isAgg21
 z21 := Tryd.sizeOf21
 v21 := Tryd.zeroValue21
 t46 := Tryd.underlying145
 a46 := Tryd.isAgg145
 z46 := Tryd.sizeOf145
 v46 := Tryd.zeroValue145
 t105 := Tryd.underlying142
 a105 := Tryd.isAgg142
 z105 := Tryd.sizeOf142
 v105 := Tryd.zeroValue142
 t119 := Tryd.underlying155
 a119 := Tryd.isAgg155
 z119 := Tryd.sizeOf155
 t138 := Tryd.underlying157
 a138 := Tryd.isAgg157
 z138 := Tryd.sizeOf157
 v138 := Tryd.zeroValue157
 t139 := Tryd.underlying158
 a139 := Tryd.isAgg158
 z139 := Tryd.sizeOf158
 v139 := Tryd.zeroValue158
 g3 := by kernel_rfl
 g4 := by kernel_rfl }
open Go.RowKit Go.Lib in
theorem Tryd.utf8_DecodeRuneInString (s : ByteArray) (w : World) (hT : Lib.Utf8Tabs 2 3 w) :
  Calls Tryd.prog 102 #[.string s] w fun e w' => e = .returned (.tuple #[.int .i32 (Lib.decodeGo s).1, .int .i64 (Lib.decodeGo s).2]) ∧ Below w.heap.size w w' := Any.utf8_DecodeRuneInString Tryd.lays197 s w hT
def Tryd.lays107_ren : Go.Shelf.Ren := ⟨fun | 107 => 112 | 108 => 131 | n => n, fun | 28 => 23 | 3 => 3 | 4 => 4 | 0 => 0 | n => n, fun | n => n⟩
theorem Tryd.lays107 : Go.Proofs.Lays.n107 Tryd.prog Tryd.lays107_ren := {
 mixed := by kernel_rfl
 f107 := Tryd.func112.trans (congrArg some (by kernel_rfl))
 f108 := Tryd.func131.trans (congrArg some (by kernel_rfl))
 t0 := Tryd.underlying0
 a0 := Tryd.isAgg0
 z0 := Tryd.sizeOf0
 v0 := Tryd.zeroValue0
 t3 := Tryd.underlying3
 a3 := Tryd.isAgg3
 z3 := Tryd.sizeOf3
 v3 := Tryd.zeroValue3
 t4 := Tryd.underlying4
 a4 := Tryd.isAgg4
 z4 := Tryd.sizeOf4
 v4 := Tryd.zeroValue4
 t28 := Tryd.underlying23
 a28 := Tryd.isAgg23
 z28 := Tryd.sizeOf23
 v28 := Tryd.zeroValue23 }
open Go.Lib in
theorem Tryd.slices_Contains_int (b off n c : Nat) (zs : List Int) (x : Int) (w : World) (hz : n ≤ zs.length) (hbig : n ≤ 9223372036854775807) (hc : ∀ j, j < zs.length → w.cell? ⟨b, off + j, none⟩ = some (.int .i64 (zs.getD j 0))) :
  Calls Tryd.prog 112 #[.slice (some ⟨b, off, none⟩) n c, .int .i64 x] w fun e w' => e = .returned (.bool ((zs.take n).contains x)) ∧ w' = w := Any.slices_Contains_int Tryd.lays107 b off n c zs x w hz hbig hc
open Go.Lib in
theorem Tryd.slices_Contains_int_empty (a : Option Addr) (c : Nat) (x : Int) (w : World) :
  Calls Tryd.prog 112 #[.slice a 0 c, .int .i64 x] w fun e w' => e = .returned (.bool false) ∧ w' = w := Any.slices_Contains_int_empty Tryd.lays107 a c x w
end Go.Proofs
