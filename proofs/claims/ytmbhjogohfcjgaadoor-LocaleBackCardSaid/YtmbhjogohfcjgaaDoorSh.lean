/-
  DERIVED: THE SHELF's CONTRACTS AT THIS DUMP, IN PLAIN WORDS (tools/lay-plain.mjs out of 'TrydShelf.lean', which tools/lay-shelf.mjs wrote): THE SAME DECLARATIONS UNDER THE SAME NAMES: 'import', 'namespace', 'open', 'def', 'theorem' AND NOTHING ELSE: no command of the shelf's: FOR A HAND-IN. Each laying: the table of numbers ('.._ren') and one theorem, a field a fact of the dump's own or the kernel's comparison; each contract: ONE APPLICATION.
-/
import Derived.Shelf.Strings.Builder1
import Derived.Shelf.Strings.Builder2
import Derived.Shelf.Strings.Trim
import Derived.Shelf.Small.Utf8
import Derived.Shelf.Small.Strs
import Derived.Shelf.Strings.BuilderF
import Derived.Shelf.Strings.Search1
import Derived.Shelf.Strings.Search2
import Derived.Shelf.Strings.Search3
import Derived.Shelf.Strings.Count
import Derived.Shelf.LaysM
import Derived.Shelf.Strings.Shaped
import Derived.Shelf.Strings.Prefix
import Derived.Shelf.Strings.Split
import Derived.Shelf.Strings.Replace
import Derived.Shelf.Strings.SplitShaped
import Derived.Shelf.Strings.Runes
import Derived.Shelf.Strings.AsciiSet
import Derived.Shelf.Bits.Mul64
import Derived.Shelf.Strings.Repeat
import Derived.Shelf.Unicode.DecodeSlow
import Derived.Shelf.Unicode.DecodeAny
import Derived.Shelf.Unicode.DecodeLast
import Derived.Test.YtmbhjogohfcjgaaDoorProg
namespace Go.Proofs
open Go.Shelf
def Tryd.lays160_ren : Go.Shelf.Ren := ⟨fun | 160 => 41 | 232 => 71 | 231 => 70 | 227 => 72 | 234 => 74 | 233 => 73 | 236 => 76 | 235 => 75 | 228 => 103 | 271 => 105 | 151 => 104 | 197 => 102 | 120 => 127 | 152 => 126 | 260 => 125 | 137 => 94 | 119 => 138 | 224 => 136 | 225 => 135 | 217 => 118 | 266 => 134 | n => n, fun | 9 => 9 | 4 => 4 | 3 => 3 | 5 => 5 | 117 => 115 | 116 => 114 | 0 => 0 | 124 => 118 | 21 => 21 | 105 => 142 | 46 => 145 | 119 => 155 | 139 => 158 | 138 => 157 | n => n, fun | 3 => 2 | 4 => 3 | n => n⟩
theorem Tryd.lays160 : Go.Proofs.Lays.n160 Tryd.prog Tryd.lays160_ren := {
  mixed := by kernel_rfl
  f119 := Tryd.func138.trans (congrArg some (by kernel_rfl))
  f120 := Tryd.func127.trans (congrArg some (by kernel_rfl))
  f137 := Tryd.func94.trans (congrArg some (by kernel_rfl))
  f151 := Tryd.func104.trans (congrArg some (by kernel_rfl))
  f152 := Tryd.func126.trans (congrArg some (by kernel_rfl))
  f160 := Tryd.func41.trans (congrArg some (by kernel_rfl))
  f197 := Tryd.func102.trans (congrArg some (by kernel_rfl))
  f217 := Tryd.func118.trans (congrArg some (by kernel_rfl))
  f224 := Tryd.func136.trans (congrArg some (by kernel_rfl))
  f225 := Tryd.func135.trans (congrArg some (by kernel_rfl))
  f227 := Tryd.func72.trans (congrArg some (by kernel_rfl))
  f228 := Tryd.func103.trans (congrArg some (by kernel_rfl))
  f231 := Tryd.func70.trans (congrArg some (by kernel_rfl))
  f232 := Tryd.func71.trans (congrArg some (by kernel_rfl))
  f233 := Tryd.func73.trans (congrArg some (by kernel_rfl))
  f234 := Tryd.func74.trans (congrArg some (by kernel_rfl))
  f235 := Tryd.func75.trans (congrArg some (by kernel_rfl))
  f236 := Tryd.func76.trans (congrArg some (by kernel_rfl))
  f260 := Tryd.func125.trans (congrArg some (by kernel_rfl))
  f266 := Tryd.func134.trans (congrArg some (by kernel_rfl))
  f271 := Tryd.func105.trans (congrArg some (by kernel_rfl))
  t0 := Tryd.underlying0
  a0 := Tryd.isAgg0
  z0 := Tryd.sizeOf0
  v0 := Tryd.zeroValue0
  t3 := Tryd.underlying3
  a3 := Tryd.isAgg3
  z3 := Tryd.sizeOf3
  v3 := Tryd.zeroValue3
  t4 := Tryd.underlying4
  a4 := Tryd.isAgg4
  z4 := Tryd.sizeOf4
  v4 := Tryd.zeroValue4
  t5 := Tryd.underlying5
  a5 := Tryd.isAgg5
  z5 := Tryd.sizeOf5
  v5 := Tryd.zeroValue5
  t9 := Tryd.underlying9
  a9 := Tryd.isAgg9
  z9 := Tryd.sizeOf9
  v9 := Tryd.zeroValue9
  t21 := Tryd.underlying21
  a21 := Tryd.isAgg21
  z21 := Tryd.sizeOf21
  v21 := Tryd.zeroValue21
  t46 := Tryd.underlying145
  a46 := Tryd.isAgg145
  z46 := Tryd.sizeOf145
  v46 := Tryd.zeroValue145
  t105 := Tryd.underlying142
  a105 := Tryd.isAgg142
  z105 := Tryd.sizeOf142
  v105 := Tryd.zeroValue142
  t116 := Tryd.underlying114
  a116 := Tryd.isAgg114
  z116 := Tryd.sizeOf114
  t117 := Tryd.underlying115
  a117 := Tryd.isAgg115
  z117 := Tryd.sizeOf115
  v117 := Tryd.zeroValue115
  t119 := Tryd.underlying155
  a119 := Tryd.isAgg155
  z119 := Tryd.sizeOf155
  t124 := Tryd.underlying118
  a124 := Tryd.isAgg118
  z124 := Tryd.sizeOf118
  v124 := Tryd.zeroValue118
  t138 := Tryd.underlying157
  a138 := Tryd.isAgg157
  z138 := Tryd.sizeOf157
  v138 := Tryd.zeroValue157
  t139 := Tryd.underlying158
  a139 := Tryd.isAgg158
  z139 := Tryd.sizeOf158
  v139 := Tryd.zeroValue158
  g3 := by kernel_rfl
  g4 := by kernel_rfl }
def Tryd.lays155_ren : Go.Shelf.Ren := ⟨fun | 155 => 40 | 154 => 69 | 138 => 100 | 165 => 91 | 143 => 101 | 166 => 92 | 197 => 102 | 169 => 93 | 195 => 122 | 218 => 123 | 240 => 116 | 241 => 117 | 219 => 124 | 260 => 125 | 276 => 132 | 277 => 133 | 217 => 118 | 225 => 135 | 224 => 136 | 267 => 137 | 266 => 134 | 314 => 139 | n => n, fun | 9 => 9 | 3 => 3 | 4 => 4 | 72 => 131 | 0 => 0 | 76 => 135 | 105 => 142 | 21 => 21 | 5 => 5 | 70 => 129 | 20 => 20 | 37 => 77 | 75 => 134 | 127 => 153 | 164 => 170 | 46 => 145 | 119 => 155 | 139 => 158 | 138 => 157 | 146 => 164 | 51 => 163 | 80 => 102 | n => n, fun | 1 => 4 | 3 => 2 | 4 => 3 | n => n⟩
theorem Tryd.lays155 : Go.Proofs.Lays.n155 Tryd.prog Tryd.lays155_ren := {
  mixed := by kernel_rfl
  f138 := Tryd.func100.trans (congrArg some (by kernel_rfl))
  f143 := Tryd.func101.trans (congrArg some (by kernel_rfl))
  f154 := Tryd.func69.trans (congrArg some (by kernel_rfl))
  f155 := Tryd.func40.trans (congrArg some (by kernel_rfl))
  f165 := Tryd.func91.trans (congrArg some (by kernel_rfl))
  f166 := Tryd.func92.trans (congrArg some (by kernel_rfl))
  f169 := Tryd.func93.trans (congrArg some (by kernel_rfl))
  f195 := Tryd.func122.trans (congrArg some (by kernel_rfl))
  f197 := Tryd.func102.trans (congrArg some (by kernel_rfl))
  f217 := Tryd.func118.trans (congrArg some (by kernel_rfl))
  f218 := Tryd.func123.trans (congrArg some (by kernel_rfl))
  f219 := Tryd.func124.trans (congrArg some (by kernel_rfl))
  f224 := Tryd.func136.trans (congrArg some (by kernel_rfl))
  f225 := Tryd.func135.trans (congrArg some (by kernel_rfl))
  f240 := Tryd.func116.trans (congrArg some (by kernel_rfl))
  f241 := Tryd.func117.trans (congrArg some (by kernel_rfl))
  f260 := Tryd.func125.trans (congrArg some (by kernel_rfl))
  f266 := Tryd.func134.trans (congrArg some (by kernel_rfl))
  f267 := Tryd.func137.trans (congrArg some (by kernel_rfl))
  f276 := Tryd.func132.trans (congrArg some (by kernel_rfl))
  f277 := Tryd.func133.trans (congrArg some (by kernel_rfl))
  f314 := Tryd.func139.trans (congrArg some (by kernel_rfl))
  t0 := Tryd.underlying0
  a0 := Tryd.isAgg0
  z0 := Tryd.sizeOf0
  v0 := Tryd.zeroValue0
  t3 := Tryd.underlying3
  a3 := Tryd.isAgg3
  z3 := Tryd.sizeOf3
  v3 := Tryd.zeroValue3
  t4 := Tryd.underlying4
  a4 := Tryd.isAgg4
  z4 := Tryd.sizeOf4
  v4 := Tryd.zeroValue4
  t5 := Tryd.underlying5
  a5 := Tryd.isAgg5
  z5 := Tryd.sizeOf5
  v5 := Tryd.zeroValue5
  t9 := Tryd.underlying9
  a9 := Tryd.isAgg9
  z9 := Tryd.sizeOf9
  v9 := Tryd.zeroValue9
  t20 := Tryd.underlying20
  a20 := Tryd.isAgg20
  z20 := Tryd.sizeOf20
  v20 := Tryd.zeroValue20
  t21 := Tryd.underlying21
  a21 := Tryd.isAgg21
  z21 := Tryd.sizeOf21
  v21 := Tryd.zeroValue21
  t37 := Tryd.underlying77
  a37 := Tryd.isAgg77
  z37 := Tryd.sizeOf77
  v37 := Tryd.zeroValue77
  t46 := Tryd.underlying145
  a46 := Tryd.isAgg145
  z46 := Tryd.sizeOf145
  v46 := Tryd.zeroValue145
  t51 := Tryd.underlying163
  a51 := Tryd.isAgg163
  z51 := Tryd.sizeOf163
  v51 := Tryd.zeroValue163
  t70 := Tryd.underlying129
  a70 := Tryd.isAgg129
  z70 := Tryd.sizeOf129
  v70 := Tryd.zeroValue129
  t72 := Tryd.underlying131
  a72 := Tryd.isAgg131
  z72 := Tryd.sizeOf131
  v72 := Tryd.zeroValue131
  t75 := Tryd.underlying134
  a75 := Tryd.isAgg134
  z75 := Tryd.sizeOf134
  v75 := Tryd.zeroValue134
  t76 := Tryd.underlying135
  a76 := Tryd.isAgg135
  z76 := Tryd.sizeOf135
  v76 := Tryd.zeroValue135
  t105 := Tryd.underlying142
  a105 := Tryd.isAgg142
  z105 := Tryd.sizeOf142
  v105 := Tryd.zeroValue142
  t119 := Tryd.underlying155
  a119 := Tryd.isAgg155
  z119 := Tryd.sizeOf155
  t127 := Tryd.underlying153
  a127 := Tryd.isAgg153
  z127 := Tryd.sizeOf153
  v127 := Tryd.zeroValue153
  t138 := Tryd.underlying157
  a138 := Tryd.isAgg157
  z138 := Tryd.sizeOf157
  v138 := Tryd.zeroValue157
  t139 := Tryd.underlying158
  a139 := Tryd.isAgg158
  z139 := Tryd.sizeOf158
  v139 := Tryd.zeroValue158
  t146 := Tryd.underlying164
  a146 := Tryd.isAgg164
  z146 := Tryd.sizeOf164
  v146 := Tryd.zeroValue164
  t164 := Tryd.underlying170
  a164 := Tryd.isAgg170
  z164 := Tryd.sizeOf170
  v164 := Tryd.zeroValue170
  g1 := by kernel_rfl
  g3 := by kernel_rfl
  g4 := by kernel_rfl }
theorem Tryd.Builder_Extra_155 : Builder.Extra Tryd.prog Tryd.lays155_ren := {
  sizeBuilder := by kernel_rfl
  liesBuilder := by kernel_rfl
  t5 := Tryd.underlying5
  a5 := Tryd.isAgg5
  z5 := Tryd.sizeOf5
  v5 := Tryd.zeroValue5
  infoByte := by kernel_rfl
  cellsByte := by kernel_rfl
  sizeByte := by kernel_rfl
  neB5 := by decide }
open Go.RowKit Go.Lib in
/-- strings.ReplaceAll: "ReplaceAll returns a copy of the string s with all non-overlapping instances of old replaced by new.": AT AN old THAT IS NOT EMPTY: 'Lib.replaceAll s old new'. (LAID: no walk: one application.) -/
theorem Tryd.strings_ReplaceAll (s old new : ByteArray) (m : Int) (w : World) (hs : s.size < 4294967281) (hm : w.cell? ⟨4, 0, none⟩ = some (.int .i64 m)) (h1 : 1 ≤ old.size) (hlen : s.size + Lib.countB s old * new.size ≤ 140737488355328) :
    Calls Tryd.prog 40 #[.string s, .string old, .string new] w fun e w' =>
      e = .returned (.string ⟨(Lib.replaceAll s.data.toList old.data.toList new.data.toList).toArray⟩) ∧ Below w.heap.size w w' := Any.strings_ReplaceAll Tryd.lays155 Tryd.Builder_Extra_155 s old new m w hs hm h1 hlen
def Tryd.lays105_ren : Go.Shelf.Ren := ⟨fun | 105 => 78 | 212 => 106 | 99 => 107 | 165 => 91 | 166 => 92 | 170 => 108 | 169 => 93 | 263 => 128 | 264 => 129 | 206 => 130 | 240 => 116 | 241 => 117 | 276 => 132 | 277 => 133 | n => n, fun | 9 => 9 | 3 => 3 | 4 => 4 | 20 => 20 | 0 => 0 | 46 => 145 | 109 => 146 | 5 => 5 | 72 => 131 | 76 => 135 | 51 => 163 | 146 => 164 | 53 => 166 | 148 => 167 | 70 => 129 | 37 => 77 | 75 => 134 | 127 => 153 | 164 => 170 | 80 => 102 | n => n, fun | n => n⟩
theorem Tryd.lays105 : Go.Proofs.Lays.n105 Tryd.prog Tryd.lays105_ren := {
  mixed := by kernel_rfl
  f99 := Tryd.func107.trans (congrArg some (by kernel_rfl))
  f105 := Tryd.func78.trans (congrArg some (by kernel_rfl))
  f165 := Tryd.func91.trans (congrArg some (by kernel_rfl))
  f166 := Tryd.func92.trans (congrArg some (by kernel_rfl))
  f169 := Tryd.func93.trans (congrArg some (by kernel_rfl))
  f170 := Tryd.func108.trans (congrArg some (by kernel_rfl))
  f206 := Tryd.func130.trans (congrArg some (by kernel_rfl))
  f212 := Tryd.func106.trans (congrArg some (by kernel_rfl))
  f240 := Tryd.func116.trans (congrArg some (by kernel_rfl))
  f241 := Tryd.func117.trans (congrArg some (by kernel_rfl))
  f263 := Tryd.func128.trans (congrArg some (by kernel_rfl))
  f264 := Tryd.func129.trans (congrArg some (by kernel_rfl))
  f276 := Tryd.func132.trans (congrArg some (by kernel_rfl))
  f277 := Tryd.func133.trans (congrArg some (by kernel_rfl))
  t0 := Tryd.underlying0
  a0 := Tryd.isAgg0
  z0 := Tryd.sizeOf0
  v0 := Tryd.zeroValue0
  t3 := Tryd.underlying3
  a3 := Tryd.isAgg3
  z3 := Tryd.sizeOf3
  v3 := Tryd.zeroValue3
  t4 := Tryd.underlying4
  a4 := Tryd.isAgg4
  z4 := Tryd.sizeOf4
  v4 := Tryd.zeroValue4
  t5 := Tryd.underlying5
  a5 := Tryd.isAgg5
  z5 := Tryd.sizeOf5
  v5 := Tryd.zeroValue5
  t9 := Tryd.underlying9
  a9 := Tryd.isAgg9
  z9 := Tryd.sizeOf9
  v9 := Tryd.zeroValue9
  t20 := Tryd.underlying20
  a20 := Tryd.isAgg20
  z20 := Tryd.sizeOf20
  v20 := Tryd.zeroValue20
  t37 := Tryd.underlying77
  a37 := Tryd.isAgg77
  z37 := Tryd.sizeOf77
  v37 := Tryd.zeroValue77
  t46 := Tryd.underlying145
  a46 := Tryd.isAgg145
  z46 := Tryd.sizeOf145
  v46 := Tryd.zeroValue145
  t51 := Tryd.underlying163
  a51 := Tryd.isAgg163
  z51 := Tryd.sizeOf163
  v51 := Tryd.zeroValue163
  t53 := Tryd.underlying166
  a53 := Tryd.isAgg166
  z53 := Tryd.sizeOf166
  v53 := Tryd.zeroValue166
  t70 := Tryd.underlying129
  a70 := Tryd.isAgg129
  z70 := Tryd.sizeOf129
  v70 := Tryd.zeroValue129
  t72 := Tryd.underlying131
  a72 := Tryd.isAgg131
  z72 := Tryd.sizeOf131
  v72 := Tryd.zeroValue131
  t75 := Tryd.underlying134
  a75 := Tryd.isAgg134
  z75 := Tryd.sizeOf134
  v75 := Tryd.zeroValue134
  t76 := Tryd.underlying135
  a76 := Tryd.isAgg135
  z76 := Tryd.sizeOf135
  v76 := Tryd.zeroValue135
  t109 := Tryd.underlying146
  a109 := Tryd.isAgg146
  z109 := Tryd.sizeOf146
  v109 := Tryd.zeroValue146
  t127 := Tryd.underlying153
  a127 := Tryd.isAgg153
  z127 := Tryd.sizeOf153
  v127 := Tryd.zeroValue153
  t146 := Tryd.underlying164
  a146 := Tryd.isAgg164
  z146 := Tryd.sizeOf164
  v146 := Tryd.zeroValue164
  t148 := Tryd.underlying167
  a148 := Tryd.isAgg167
  z148 := Tryd.sizeOf167
  v148 := Tryd.zeroValue167
  t164 := Tryd.underlying170
  a164 := Tryd.isAgg170
  z164 := Tryd.sizeOf170
  v164 := Tryd.zeroValue170 }
theorem Tryd.Builder_Extra_105 : Builder.Extra Tryd.prog Tryd.lays105_ren := {
  sizeBuilder := by kernel_rfl
  liesBuilder := by kernel_rfl
  t5 := Tryd.underlying5
  a5 := Tryd.isAgg5
  z5 := Tryd.sizeOf5
  v5 := Tryd.zeroValue5
  infoByte := by kernel_rfl
  cellsByte := by kernel_rfl
  sizeByte := by kernel_rfl
  neB5 := by decide }
open Go.RowKit Go.Lib in
/-- **strings.Repeat: count ≥ 0, the result within one allocation: count copies of s.** (LAID: no walk: one application.) -/
theorem Tryd.strings_Repeat (s : ByteArray) (c : Nat) (w : World) (hc : c ≤ 9223372036854775807) (hlen : s.size * c ≤ 140737488355328) :
    Calls Tryd.prog 78 #[.string s, .int .i64 c] w fun e w' => e = .returned (.string ⟨(Lib.repeatL s.data.toList c).toArray⟩) ∧ Below w.heap.size w w' := Any.strings_Repeat Tryd.lays105 Tryd.Builder_Extra_105 s c w hc hlen
end Go.Proofs
