/- Lemmas and walks, part 5: QShelf, QParse, QStd, QRefsA, QCoded, QDecP, QTokP. -/
import Derived.Shelf.Strings.Builder1
import Derived.Shelf.Small.Utf8
import Derived.Shelf.Small.Strs
import Derived.Shelf.Strings.BuilderF
import Derived.Shelf.Strings.BuilderK
import Derived.Shelf.LaysM
import Derived.Shelf.Strconv.Clone
import Derived.Shelf.Strconv.RangeError
import Derived.Shelf.LaysC
import Derived.Shelf.Strconv.ToErrorRange
import Derived.Shelf.Strings.Search1
import Derived.Shelf.Strings.Search2
import Derived.Shelf.Strings.Search3
import Derived.Shelf.Strings.Cut
import Derived.Shelf.Strings.Shaped
import Derived.Shelf.Strings.Prefix
import Derived.Shelf.Strings.Runes
import Derived.Shelf.Strings.IndexAny
import Derived.Shelf.Strings.AsciiSet
import Derived.Shelf.Strings.IndexAnyAll
import Derived.Shelf.Slices.Turned
import Derived.Test.YtdnbaliibiginaaDoorProg
import Derived.Test.YtdnbaliibiginaaDoorY4
import Derived.Lib.ConvBytes
import Derived.Lib.AtoiErrMem
import Derived.Lib.Hide
import Derived.BigGuard
import Derived.WalkKit
import Derived.Laws.Runes
import Derived.WalkLawsBesides
import Derived.Lib.IfaceNeq
import Derived.Lib.IndexMore
import Derived.Laws.Cover4
set_option linter.unusedVariables false
set_option linter.unusedSimpArgs false

/-
 DERIVED: THE SHELF's CONTRACTS AT THIS DUMP, IN PLAIN WORDS (tools/lay-plain.mjs out of 'TrydShelf.lean', which tools/lay-shelf.mjs wrote): THE SAME DECLARATIONS UNDER THE SAME NAMES: 'import', 'namespace', 'open', 'def', 'theorem' AND NOTHING ELSE: no command of the shelf's: FOR A HAND-IN. Each laying: the table of numbers ('.._ren') and one theorem, a field a fact of the dump's own or the kernel's comparison; each contract: ONE APPLICATION.
-/
namespace Go.Proofs
open Go.Shelf
def Tryd.lays169_ren : Go.Shelf.Ren := ⟨fun | 169 => 46 | n => n, fun | 70 => 60 | 9 => 9 | 0 => 0 | 72 => 63 | 37 => 61 | 127 => 83 | 3 => 3 | 5 => 5 | n => n, fun | n => n⟩
theorem Tryd.lays169 : Go.Proofs.Lays.n169 Tryd.prog Tryd.lays169_ren := {
 mixed := by kernel_rfl
 f169 := Tryd.func46.trans (congrArg some (by kernel_rfl))
 t0 := Tryd.underlying0
 a0 := Tryd.isAgg0
 z0 := Tryd.sizeOf0
 v0 := Tryd.zeroValue0
 t3 := Tryd.underlying3
 a3 := Tryd.isAgg3
 z3 := Tryd.sizeOf3
 v3 := Tryd.zeroValue3
 t9 := Tryd.underlying9
 a9 := Tryd.isAgg9
 z9 := Tryd.sizeOf9
 v9 := Tryd.zeroValue9
 t37 := Tryd.underlying61
 a37 := Tryd.isAgg61
 z37 := Tryd.sizeOf61
 v37 := Tryd.zeroValue61
 t70 := Tryd.underlying60
 a70 := Tryd.isAgg60
 z70 := Tryd.sizeOf60
 v70 := Tryd.zeroValue60
 t72 := Tryd.underlying63
 a72 := Tryd.isAgg63
 z72 := Tryd.sizeOf63
 v72 := Tryd.zeroValue63
 t127 := Tryd.underlying83
 a127 := Tryd.isAgg83
 z127 := Tryd.sizeOf83
 v127 := Tryd.zeroValue83 }
theorem Tryd.Builder_Extra_169 : Builder.Extra Tryd.prog Tryd.lays169_ren := {
 sizeBuilder := by kernel_rfl
 liesBuilder := by kernel_rfl
 t5 := Tryd.underlying5
 a5 := Tryd.isAgg5
 z5 := Tryd.sizeOf5
 v5 := Tryd.zeroValue5
 infoByte := by kernel_rfl
 cellsByte := by kernel_rfl
 sizeByte := by kernel_rfl
 neB5 := by decide }
open Go.RowKit in
open Go.RowKit in
open Go.RowKit in
def Tryd.lays119_ren : Go.Shelf.Ren := ⟨fun | 119 => 123 | n => n, fun | 21 => 21 | 4 => 4 | n => n, fun | n => n⟩
theorem Tryd.lays119 : Go.Proofs.Lays.n119 Tryd.prog Tryd.lays119_ren := {
 mixed := by kernel_rfl
 f119 := Tryd.func123.trans (congrArg some (by kernel_rfl))
 t4 := Tryd.underlying4
 a4 := Tryd.isAgg4
 z4 := Tryd.sizeOf4
 v4 := Tryd.zeroValue4
 t21 := Tryd.underlying21
 a21 := Tryd.isAgg21
 z21 := Tryd.sizeOf21
 v21 := Tryd.zeroValue21 }
theorem Tryd.utf8_ValidRune (r : Int) (w : World) :
  Calls Tryd.prog 123 #[.int .i32 r] w fun e w' => e = .returned (.bool (Lib.validRune r)) ∧ w' = w := Any.utf8_ValidRune Tryd.lays119 r w
def Tryd.lays137_ren : Go.Shelf.Ren := ⟨fun | 137 => 122 | 217 => 126 | 266 => 137 | n => n, fun | 9 => 9 | 5 => 5 | 3 => 3 | n => n, fun | n => n⟩
theorem Tryd.lays137 : Go.Proofs.Lays.n137 Tryd.prog Tryd.lays137_ren := {
 mixed := by kernel_rfl
 f137 := Tryd.func122.trans (congrArg some (by kernel_rfl))
 f217 := Tryd.func126.trans (congrArg some (by kernel_rfl))
 f266 := Tryd.func137.trans (congrArg some (by kernel_rfl))
 t3 := Tryd.underlying3
 a3 := Tryd.isAgg3
 z3 := Tryd.sizeOf3
 v3 := Tryd.zeroValue3
 t5 := Tryd.underlying5
 a5 := Tryd.isAgg5
 z5 := Tryd.sizeOf5
 v5 := Tryd.zeroValue5
 t9 := Tryd.underlying9
 a9 := Tryd.isAgg9
 z9 := Tryd.sizeOf9
 v9 := Tryd.zeroValue9 }
open Go.RowKit in
theorem Tryd.strings_IndexByte (s : ByteArray) (c : Int) (w : World) :
  Calls Tryd.prog 122 #[.string s, .int .u8 c] w fun e w' => e = .returned (.int .i64 (Lib.indexByte s.data.toList c.toNat.toUInt8)) ∧ w' = w := Any.strings_IndexByte Tryd.lays137 s c w
open Go.RowKit in
open Go.RowKit in
open Go.RowKit in
open Go.RowKit in
open Go.RowKit in
open Go.RowKit in
theorem Tryd.Builder_String_any_k (B b : Nat) (l : List UInt8) (w : World) (h : Lib.IsBuilderF 63 5 B b (Lib.byteCells l) w) (hBw : B ≤ w.heap.size) :
  Calls Tryd.prog 46 #[.pointer (some ⟨b, 0, none⟩)] w fun e w' => e = .returned (.string ⟨l.toArray⟩) ∧ (Lib.IsBuilderF 63 5 B b (Lib.byteCells l) w' ∧ Below B w w' ∧ Lib.OthersKept 5 (some b) w w') := Any.Builder_String_any_k Tryd.lays169 Tryd.Builder_Extra_169 B b l w h hBw
def Tryd.laysM316_ren : Go.Shelf.Ren := ⟨fun | 316 => 158 | n => n, fun | 9 => 9 | 3 => 3 | 4 => 4 | 37 => 61 | 0 => 0 | 127 => 83 | 5 => 5 | n => n, fun | n => n⟩
open Go.RowKit in
def Tryd.laysM280_ren : Go.Shelf.Ren := ⟨fun | 280 => 153 | 316 => 158 | n => n, fun | 9 => 9 | 168 => 144 | 75 => 65 | 210 => 149 | 3 => 3 | 4 => 4 | 37 => 61 | 0 => 0 | 127 => 83 | 80 => 70 | 5 => 5 | n => n, fun | 16 => 4 | n => n⟩
open Go.RowKit in
def Tryd.laysC245_ren : Go.Shelf.Ren := ⟨fun | 245 => 150 | 279 => 152 | 280 => 153 | 281 => 154 | 282 => 155 | 316 => 158 | 171 => 160 | 205 => 159 | 243 => 161 | 246 => 162 | 283 => 163 | 284 => 164 | 285 => 165 | 286 => 166 | 129 => 168 | 317 => 167 | 318 => 169 | 319 => 170 | 320 => 171 | 337 => 172 | 338 => 173 | n => n, fun | 9 => 9 | 3 => 3 | 75 => 65 | 167 => 141 | 4 => 4 | 168 => 144 | 210 => 149 | 37 => 61 | 0 => 0 | 127 => 83 | 145 => 153 | 143 => 151 | 2 => 2 | 171 => 155 | 53 => 119 | 5 => 5 | 173 => 158 | 212 => 161 | 51 => 130 | 20 => 20 | 213 => 162 | 46 => 104 | 232 => 165 | 233 => 166 | 80 => 70 | n => n, fun | 15 => 3 | 16 => 4 | 17 => 5 | 18 => 6 | 19 => 7 | n => n⟩
open Go.RowKit in
def Tryd.lays217_ren : Go.Shelf.Ren := ⟨fun | 217 => 126 | 266 => 137 | n => n, fun | 9 => 9 | 5 => 5 | 3 => 3 | n => n, fun | n => n⟩
open Go.RowKit Go.Lib in
def Tryd.lays224_ren : Go.Shelf.Ren := ⟨fun | 224 => 124 | n => n, fun | 3 => 3 | n => n, fun | n => n⟩
open Go.RowKit Go.Lib in
def Tryd.lays314_ren : Go.Shelf.Ren := ⟨fun | 314 => 138 | n => n, fun | 9 => 9 | 51 => 130 | 3 => 3 | 4 => 4 | 5 => 5 | 46 => 104 | n => n, fun | n => n⟩
open Go.RowKit Go.Lib in
def Tryd.lays267_ren : Go.Shelf.Ren := ⟨fun | 267 => 127 | 314 => 138 | n => n, fun | 9 => 9 | 3 => 3 | 146 => 131 | 51 => 130 | 4 => 4 | 5 => 5 | 46 => 104 | n => n, fun | n => n⟩
open Go.RowKit Go.Lib in
def Tryd.lays219_ren : Go.Shelf.Ren := ⟨fun | 219 => 108 | 217 => 126 | 225 => 125 | 224 => 124 | 267 => 127 | 266 => 137 | 314 => 138 | n => n, fun | 9 => 9 | 3 => 3 | 4 => 4 | 5 => 5 | 46 => 104 | 146 => 131 | 51 => 130 | n => n, fun | 1 => 2 | n => n⟩
open Go.RowKit Go.Lib in
open Go.RowKit Go.Lib in
def Tryd.lays143_ren : Go.Shelf.Ren := ⟨fun | 143 => 82 | 219 => 108 | 217 => 126 | 225 => 125 | 224 => 124 | 267 => 127 | 266 => 137 | 314 => 138 | n => n, fun | 9 => 9 | 3 => 3 | 4 => 4 | 5 => 5 | 46 => 104 | 146 => 131 | 51 => 130 | n => n, fun | 1 => 2 | n => n⟩
open Go.RowKit Go.Lib in
open Go.RowKit Go.Lib in
def Tryd.lays144_ren : Go.Shelf.Ren := ⟨fun | 144 => 61 | 143 => 82 | 219 => 108 | 217 => 126 | 225 => 125 | 224 => 124 | 267 => 127 | 266 => 137 | 314 => 138 | n => n, fun | 9 => 9 | 4 => 4 | 3 => 3 | 5 => 5 | 46 => 104 | 146 => 131 | 51 => 130 | n => n, fun | 1 => 2 | n => n⟩
theorem Tryd.lays144 : Go.Proofs.Lays.n144 Tryd.prog Tryd.lays144_ren := {
 mixed := by kernel_rfl
 f143 := Tryd.func82.trans (congrArg some (by kernel_rfl))
 f144 := Tryd.func61.trans (congrArg some (by kernel_rfl))
 f217 := Tryd.func126.trans (congrArg some (by kernel_rfl))
 f219 := Tryd.func108.trans (congrArg some (by kernel_rfl))
 f224 := Tryd.func124.trans (congrArg some (by kernel_rfl))
 f225 := Tryd.func125.trans (congrArg some (by kernel_rfl))
 f266 := Tryd.func137.trans (congrArg some (by kernel_rfl))
 f267 := Tryd.func127.trans (congrArg some (by kernel_rfl))
 f314 := Tryd.func138.trans (congrArg some (by kernel_rfl))
 t3 := Tryd.underlying3
 a3 := Tryd.isAgg3
 z3 := Tryd.sizeOf3
 v3 := Tryd.zeroValue3
 t4 := Tryd.underlying4
 a4 := Tryd.isAgg4
 z4 := Tryd.sizeOf4
 v4 := Tryd.zeroValue4
 t5 := Tryd.underlying5
 a5 := Tryd.isAgg5
 z5 := Tryd.sizeOf5
 v5 := Tryd.zeroValue5
 t9 := Tryd.underlying9
 a9 := Tryd.isAgg9
 z9 := Tryd.sizeOf9
 v9 := Tryd.zeroValue9
 t46 := Tryd.underlying104
 a46 := Tryd.isAgg104
 z46 := Tryd.sizeOf104
 v46 := Tryd.zeroValue104
 t51 := Tryd.underlying130
 a51 := Tryd.isAgg130
 z51 := Tryd.sizeOf130
 v51 := Tryd.zeroValue130
 t146 := Tryd.underlying131
 a146 := Tryd.isAgg131
 z146 := Tryd.sizeOf131
 v146 := Tryd.zeroValue131
 g1 := by kernel_rfl }
open Go.RowKit Go.Lib in
open Go.RowKit Go.Lib in
theorem Tryd.strings_Contains (s sub : ByteArray) (m : Int) (w : World) (hs : s.size < 4294967281) (hm : w.cell? ⟨2, 0, none⟩ = some (.int .i64 m)) :
  Calls Tryd.prog 61 #[.string s, .string sub] w fun e w' => e = .returned (.bool (Lib.contains s.data.toList sub.data.toList)) ∧ w' = w := Any.strings_Contains Tryd.lays144 s sub m w hs hm
def Tryd.lays220_ren : Go.Shelf.Ren := ⟨fun | 220 => 133 | 219 => 108 | 217 => 126 | 225 => 125 | 224 => 124 | 267 => 127 | 266 => 137 | 314 => 138 | n => n, fun | 9 => 9 | 4 => 4 | 3 => 3 | 5 => 5 | 46 => 104 | 146 => 131 | 51 => 130 | n => n, fun | 1 => 2 | n => n⟩
open Go.RowKit Go.Lib in
def Tryd.lays145_ren : Go.Shelf.Ren := ⟨fun | 145 => 120 | 220 => 133 | 219 => 108 | 217 => 126 | 225 => 125 | 224 => 124 | 267 => 127 | 266 => 137 | 314 => 138 | n => n, fun | 9 => 9 | 4 => 4 | 59 => 115 | 3 => 3 | 5 => 5 | 46 => 104 | 146 => 131 | 51 => 130 | n => n, fun | 1 => 2 | n => n⟩
open Go.RowKit Go.Lib in
def Tryd.laysM219_ren : Go.Shelf.Ren := ⟨fun | 219 => 108 | 217 => 126 | 225 => 125 | 224 => 124 | 267 => 127 | 266 => 137 | 314 => 138 | n => n, fun | 9 => 9 | 3 => 3 | 4 => 4 | 5 => 5 | 46 => 104 | 146 => 131 | 51 => 130 | n => n, fun | 1 => 2 | n => n⟩
open Go.RowKit Go.Lib in
def Tryd.laysM143_ren : Go.Shelf.Ren := ⟨fun | 143 => 82 | 219 => 108 | 217 => 126 | 225 => 125 | 224 => 124 | 267 => 127 | 266 => 137 | 314 => 138 | n => n, fun | 9 => 9 | 3 => 3 | 4 => 4 | 5 => 5 | 46 => 104 | 146 => 131 | 51 => 130 | n => n, fun | 1 => 2 | n => n⟩
open Go.RowKit Go.Lib in
def Tryd.laysM144_ren : Go.Shelf.Ren := ⟨fun | 144 => 61 | 143 => 82 | 219 => 108 | 217 => 126 | 225 => 125 | 224 => 124 | 267 => 127 | 266 => 137 | 314 => 138 | n => n, fun | 9 => 9 | 4 => 4 | 3 => 3 | 5 => 5 | 46 => 104 | 146 => 131 | 51 => 130 | n => n, fun | 1 => 2 | n => n⟩
open Go.RowKit Go.Lib in
def Tryd.laysM220_ren : Go.Shelf.Ren := ⟨fun | 220 => 133 | 219 => 108 | 217 => 126 | 225 => 125 | 224 => 124 | 267 => 127 | 266 => 137 | 314 => 138 | n => n, fun | 9 => 9 | 4 => 4 | 3 => 3 | 5 => 5 | 46 => 104 | 146 => 131 | 51 => 130 | n => n, fun | 1 => 2 | n => n⟩
open Go.RowKit Go.Lib in
def Tryd.laysM145_ren : Go.Shelf.Ren := ⟨fun | 145 => 120 | 220 => 133 | 219 => 108 | 217 => 126 | 225 => 125 | 224 => 124 | 267 => 127 | 266 => 137 | 314 => 138 | n => n, fun | 9 => 9 | 4 => 4 | 59 => 115 | 3 => 3 | 5 => 5 | 46 => 104 | 146 => 131 | 51 => 130 | n => n, fun | 1 => 2 | n => n⟩
open Go.RowKit Go.Lib in
def Tryd.lays206_ren : Go.Shelf.Ren := ⟨fun | 206 => 83 | n => n, fun | 9 => 9 | 4 => 4 | 3 => 3 | n => n, fun | n => n⟩
open Go.RowKit Go.Lib in
def Tryd.lays99_ren : Go.Shelf.Ren := ⟨fun | 99 => 62 | 206 => 83 | n => n, fun | 9 => 9 | 4 => 4 | 3 => 3 | n => n, fun | n => n⟩
theorem Tryd.lays99 : Go.Proofs.Lays.n99 Tryd.prog Tryd.lays99_ren := {
 mixed := by kernel_rfl
 f99 := Tryd.func62.trans (congrArg some (by kernel_rfl))
 f206 := Tryd.func83.trans (congrArg some (by kernel_rfl))
 t3 := Tryd.underlying3
 a3 := Tryd.isAgg3
 z3 := Tryd.sizeOf3
 v3 := Tryd.zeroValue3
 t4 := Tryd.underlying4
 a4 := Tryd.isAgg4
 z4 := Tryd.sizeOf4
 v4 := Tryd.zeroValue4
 t9 := Tryd.underlying9
 a9 := Tryd.isAgg9
 z9 := Tryd.sizeOf9
 v9 := Tryd.zeroValue9 }
open Go.RowKit Go.Lib in
theorem Tryd.strings_HasPrefix (s p : ByteArray) (w : World) :
  Calls Tryd.prog 62 #[.string s, .string p] w fun e w' => e = .returned (.bool (Lib.hasPrefix s.data.toList p.data.toList)) ∧ w' = w := Any.strings_HasPrefix Tryd.lays99 s p w
def Tryd.lays207_ren : Go.Shelf.Ren := ⟨fun | 207 => 90 | n => n, fun | 9 => 9 | 4 => 4 | 3 => 3 | n => n, fun | n => n⟩
open Go.RowKit Go.Lib in
def Tryd.lays100_ren : Go.Shelf.Ren := ⟨fun | 100 => 68 | 207 => 90 | n => n, fun | 9 => 9 | 4 => 4 | 3 => 3 | n => n, fun | n => n⟩
theorem Tryd.lays100 : Go.Proofs.Lays.n100 Tryd.prog Tryd.lays100_ren := {
 mixed := by kernel_rfl
 f100 := Tryd.func68.trans (congrArg some (by kernel_rfl))
 f207 := Tryd.func90.trans (congrArg some (by kernel_rfl))
 t3 := Tryd.underlying3
 a3 := Tryd.isAgg3
 z3 := Tryd.sizeOf3
 v3 := Tryd.zeroValue3
 t4 := Tryd.underlying4
 a4 := Tryd.isAgg4
 z4 := Tryd.sizeOf4
 v4 := Tryd.zeroValue4
 t9 := Tryd.underlying9
 a9 := Tryd.isAgg9
 z9 := Tryd.sizeOf9
 v9 := Tryd.zeroValue9 }
open Go.RowKit Go.Lib in
theorem Tryd.strings_HasSuffix (s p : ByteArray) (w : World) (hs : s.size ≤ 9223372036854775807) :
  Calls Tryd.prog 68 #[.string s, .string p] w fun e w' => e = .returned (.bool (Lib.hasSuffix s.data.toList p.data.toList)) ∧ w' = w := Any.strings_HasSuffix Tryd.lays100 s p w hs
def Tryd.lays152_ren : Go.Shelf.Ren := ⟨fun | 152 => 104 | 137 => 122 | 119 => 123 | 224 => 124 | 225 => 125 | 217 => 126 | 266 => 137 | n => n, fun | 9 => 9 | 21 => 21 | 3 => 3 | 4 => 4 | 5 => 5 | 0 => 0 | 46 => 104 | n => n, fun | n => n⟩
theorem Tryd.lays152 : Go.Proofs.Lays.n152 Tryd.prog Tryd.lays152_ren := {
 mixed := by kernel_rfl
 f119 := Tryd.func123.trans (congrArg some (by kernel_rfl))
 f137 := Tryd.func122.trans (congrArg some (by kernel_rfl))
 f152 := Tryd.func104.trans (congrArg some (by kernel_rfl))
 f217 := Tryd.func126.trans (congrArg some (by kernel_rfl))
 f224 := Tryd.func124.trans (congrArg some (by kernel_rfl))
 f225 := Tryd.func125.trans (congrArg some (by kernel_rfl))
 f266 := Tryd.func137.trans (congrArg some (by kernel_rfl))
 t0 := Tryd.underlying0
 a0 := Tryd.isAgg0
 z0 := Tryd.sizeOf0
 v0 := Tryd.zeroValue0
 t3 := Tryd.underlying3
 a3 := Tryd.isAgg3
 z3 := Tryd.sizeOf3
 v3 := Tryd.zeroValue3
 t4 := Tryd.underlying4
 a4 := Tryd.isAgg4
 z4 := Tryd.sizeOf4
 v4 := Tryd.zeroValue4
 t5 := Tryd.underlying5
 a5 := Tryd.isAgg5
 z5 := Tryd.sizeOf5
 v5 := Tryd.zeroValue5
 t9 := Tryd.underlying9
 a9 := Tryd.isAgg9
 z9 := Tryd.sizeOf9
 v9 := Tryd.zeroValue9
 t21 := Tryd.underlying21
 a21 := Tryd.isAgg21
 z21 := Tryd.sizeOf21
 v21 := Tryd.zeroValue21
 t46 := Tryd.underlying104
 a46 := Tryd.isAgg104
 z46 := Tryd.sizeOf104
 v46 := Tryd.zeroValue104 }
open Go.RowKit Go.Lib in
theorem Tryd.strings_IndexRune_ascii (s : ByteArray) (r : Int) (w : World) (h0 : 0 ≤ r) (h1 : r < 128) :
  Calls Tryd.prog 104 #[.string s, .int .i32 r] w fun e w' => e = .returned (.int .i64 (Lib.indexByte s.data.toList r.toNat.toUInt8)) ∧ w' = w := Any.strings_IndexRune_ascii Tryd.lays152 s r w h0 h1
def Tryd.lays226_ren : Go.Shelf.Ren := ⟨fun | 226 => 105 | n => n, fun | 3 => 3 | 4 => 4 | n => n, fun | n => n⟩
theorem Tryd.lays226 : Go.Proofs.Lays.n226 Tryd.prog Tryd.lays226_ren := {
 mixed := by kernel_rfl
 f226 := Tryd.func105.trans (congrArg some (by kernel_rfl))
 t3 := Tryd.underlying3
 a3 := Tryd.isAgg3
 z3 := Tryd.sizeOf3
 v3 := Tryd.zeroValue3
 t4 := Tryd.underlying4
 a4 := Tryd.isAgg4
 z4 := Tryd.sizeOf4
 v4 := Tryd.zeroValue4 }
open Go.RowKit Go.Lib in
theorem Tryd.strings_shouldUseASCIISet (n : Int) (w : World) :
  Calls Tryd.prog 105 #[.int .i64 n] w fun e w' => e = .returned (.bool (decide (8 < n))) ∧ w' = w := Any.strings_shouldUseASCIISet Tryd.lays226 n w
def Tryd.lays153_ren : Go.Shelf.Ren := ⟨fun | 153 => 81 | 152 => 104 | 226 => 105 | 227 => 106 | 228 => 107 | 137 => 122 | 119 => 123 | 224 => 124 | 225 => 125 | 217 => 126 | 266 => 137 | n => n, fun | 9 => 9 | 3 => 3 | 4 => 4 | 5 => 5 | 21 => 21 | 117 => 108 | 116 => 107 | 0 => 0 | 46 => 104 | 124 => 123 | n => n, fun | n => n⟩
theorem Tryd.lays153 : Go.Proofs.Lays.n153 Tryd.prog Tryd.lays153_ren := {
 mixed := by kernel_rfl
 f119 := Tryd.func123.trans (congrArg some (by kernel_rfl))
 f137 := Tryd.func122.trans (congrArg some (by kernel_rfl))
 f152 := Tryd.func104.trans (congrArg some (by kernel_rfl))
 f153 := Tryd.func81.trans (congrArg some (by kernel_rfl))
 f217 := Tryd.func126.trans (congrArg some (by kernel_rfl))
 f224 := Tryd.func124.trans (congrArg some (by kernel_rfl))
 f225 := Tryd.func125.trans (congrArg some (by kernel_rfl))
 f226 := Tryd.func105.trans (congrArg some (by kernel_rfl))
 f227 := Tryd.func106.trans (congrArg some (by kernel_rfl))
 f228 := Tryd.func107.trans (congrArg some (by kernel_rfl))
 f266 := Tryd.func137.trans (congrArg some (by kernel_rfl))
 t0 := Tryd.underlying0
 a0 := Tryd.isAgg0
 z0 := Tryd.sizeOf0
 v0 := Tryd.zeroValue0
 t3 := Tryd.underlying3
 a3 := Tryd.isAgg3
 z3 := Tryd.sizeOf3
 v3 := Tryd.zeroValue3
 t4 := Tryd.underlying4
 a4 := Tryd.isAgg4
 z4 := Tryd.sizeOf4
 v4 := Tryd.zeroValue4
 t5 := Tryd.underlying5
 a5 := Tryd.isAgg5
 z5 := Tryd.sizeOf5
 v5 := Tryd.zeroValue5
 t9 := Tryd.underlying9
 a9 := Tryd.isAgg9
 z9 := Tryd.sizeOf9
 v9 := Tryd.zeroValue9
 t21 := Tryd.underlying21
 a21 := Tryd.isAgg21
 z21 := Tryd.sizeOf21
 v21 := Tryd.zeroValue21
 t46 := Tryd.underlying104
 a46 := Tryd.isAgg104
 z46 := Tryd.sizeOf104
 v46 := Tryd.zeroValue104
 t116 := Tryd.underlying107
 a116 := Tryd.isAgg107
 z116 := Tryd.sizeOf107
 t117 := Tryd.underlying108
 a117 := Tryd.isAgg108
 z117 := Tryd.sizeOf108
 v117 := Tryd.zeroValue108
 t124 := Tryd.underlying123
 a124 := Tryd.isAgg123
 z124 := Tryd.sizeOf123
 v124 := Tryd.zeroValue123 }
open Go.RowKit Go.Lib in
open Go.RowKit Go.Lib in
open Go.RowKit Go.Lib in
def Tryd.lays227_ren : Go.Shelf.Ren := ⟨fun | 227 => 106 | n => n, fun | 9 => 9 | 116 => 107 | 4 => 4 | 0 => 0 | 3 => 3 | 5 => 5 | n => n, fun | n => n⟩
open Go.RowKit Go.Lib in
def Tryd.lays228_ren : Go.Shelf.Ren := ⟨fun | 228 => 107 | n => n, fun | 124 => 123 | 5 => 5 | 4 => 4 | 0 => 0 | 116 => 107 | n => n, fun | n => n⟩
open Go.RowKit Go.Lib in
open Go.RowKit Go.Lib in
theorem Tryd.strings_IndexAny_long (hv116 : ∀ w, (zeroValue 107).run Tryd.prog w = .ok (.agg (Array.replicate 256 (.bool false))) w) (s chars : ByteArray) (w : World) (h2 : 2 ≤ chars.size) (h8 : 8 < s.size) (hs : s.size < 4294967281) (hcs : chars.size < 4294967281) (hascii : ∀ (j : Nat) b, chars.data.toList[j]? = some b → b.toNat < 128) :
  Calls Tryd.prog 81 #[.string s, .string chars] w fun e w' => e = .returned (.int .i64 (Lib.indexAny s.data.toList chars.data.toList)) ∧ w' = ((w.alloc (.cells (Lib.setCells chars.data.toList) 107)).alloc (.cells (Lib.setCells chars.data.toList) 107)) := Any.strings_IndexAny_long Tryd.lays153 hv116 (by kernel_rfl) s chars w h2 h8 hs hcs hascii
open Go.RowKit Go.Lib in
def Tryd.lays150_ren : Go.Shelf.Ren := ⟨fun | 150 => 60 | 153 => 81 | 152 => 104 | 226 => 105 | 227 => 106 | 228 => 107 | 137 => 122 | 119 => 123 | 224 => 124 | 225 => 125 | 217 => 126 | 266 => 137 | n => n, fun | 9 => 9 | 4 => 4 | 3 => 3 | 5 => 5 | 21 => 21 | 117 => 108 | 116 => 107 | 0 => 0 | 46 => 104 | 124 => 123 | n => n, fun | n => n⟩
theorem Tryd.lays150 : Go.Proofs.Lays.n150 Tryd.prog Tryd.lays150_ren := {
 mixed := by kernel_rfl
 f119 := Tryd.func123.trans (congrArg some (by kernel_rfl))
 f137 := Tryd.func122.trans (congrArg some (by kernel_rfl))
 f150 := Tryd.func60.trans (congrArg some (by kernel_rfl))
 f152 := Tryd.func104.trans (congrArg some (by kernel_rfl))
 f153 := Tryd.func81.trans (congrArg some (by kernel_rfl))
 f217 := Tryd.func126.trans (congrArg some (by kernel_rfl))
 f224 := Tryd.func124.trans (congrArg some (by kernel_rfl))
 f225 := Tryd.func125.trans (congrArg some (by kernel_rfl))
 f226 := Tryd.func105.trans (congrArg some (by kernel_rfl))
 f227 := Tryd.func106.trans (congrArg some (by kernel_rfl))
 f228 := Tryd.func107.trans (congrArg some (by kernel_rfl))
 f266 := Tryd.func137.trans (congrArg some (by kernel_rfl))
 t0 := Tryd.underlying0
 a0 := Tryd.isAgg0
 z0 := Tryd.sizeOf0
 v0 := Tryd.zeroValue0
 t3 := Tryd.underlying3
 a3 := Tryd.isAgg3
 z3 := Tryd.sizeOf3
 v3 := Tryd.zeroValue3
 t4 := Tryd.underlying4
 a4 := Tryd.isAgg4
 z4 := Tryd.sizeOf4
 v4 := Tryd.zeroValue4
 t5 := Tryd.underlying5
 a5 := Tryd.isAgg5
 z5 := Tryd.sizeOf5
 v5 := Tryd.zeroValue5
 t9 := Tryd.underlying9
 a9 := Tryd.isAgg9
 z9 := Tryd.sizeOf9
 v9 := Tryd.zeroValue9
 t21 := Tryd.underlying21
 a21 := Tryd.isAgg21
 z21 := Tryd.sizeOf21
 v21 := Tryd.zeroValue21
 t46 := Tryd.underlying104
 a46 := Tryd.isAgg104
 z46 := Tryd.sizeOf104
 v46 := Tryd.zeroValue104
 t116 := Tryd.underlying107
 a116 := Tryd.isAgg107
 z116 := Tryd.sizeOf107
 t117 := Tryd.underlying108
 a117 := Tryd.isAgg108
 z117 := Tryd.sizeOf108
 v117 := Tryd.zeroValue108
 t124 := Tryd.underlying123
 a124 := Tryd.isAgg123
 z124 := Tryd.sizeOf123
 v124 := Tryd.zeroValue123 }
open Go.RowKit Go.Lib in
theorem Tryd.strings_ContainsAny (hv116 : ∀ w, (zeroValue 107).run Tryd.prog w = .ok (.agg (Array.replicate 256 (.bool false))) w) (s chars : ByteArray) (w : World) (hs : s.size < 4294967281) (hcs : chars.size < 4294967281) (has : ∀ (j : Nat) b, s.data.toList[j]? = some b → b.toNat < 128) (hac : ∀ (j : Nat) b, chars.data.toList[j]? = some b → b.toNat < 128) :
  Calls Tryd.prog 60 #[.string s, .string chars] w fun e w' => e = .returned (.bool (Lib.containsAny s.data.toList chars.data.toList)) ∧ Below w.heap.size w w' := Any.strings_ContainsAny Tryd.lays150 hv116 (by kernel_rfl) s chars w hs hcs has hac
open Go.RowKit Go.Lib in
open Go.RowKit Go.Lib in
def Tryd.lays109_ren : Go.Shelf.Ren := ⟨fun | 109 => 129 | n => n, fun | 31 => 47 | 9 => 9 | 3 => 3 | 0 => 0 | 4 => 4 | n => n, fun | n => n⟩
open Go.Lib in
open Go.Lib in
def Tryd.lays110_ren : Go.Shelf.Ren := ⟨fun | 110 => 111 | 109 => 129 | n => n, fun | 31 => 47 | 9 => 9 | 4 => 4 | 3 => 3 | 0 => 0 | n => n, fun | n => n⟩
theorem Tryd.lays110 : Go.Proofs.Lays.n110 Tryd.prog Tryd.lays110_ren := {
 mixed := by kernel_rfl
 f109 := Tryd.func129.trans (congrArg some (by kernel_rfl))
 f110 := Tryd.func111.trans (congrArg some (by kernel_rfl))
 t0 := Tryd.underlying0
 a0 := Tryd.isAgg0
 z0 := Tryd.sizeOf0
 v0 := Tryd.zeroValue0
 t3 := Tryd.underlying3
 a3 := Tryd.isAgg3
 z3 := Tryd.sizeOf3
 v3 := Tryd.zeroValue3
 t4 := Tryd.underlying4
 a4 := Tryd.isAgg4
 z4 := Tryd.sizeOf4
 v4 := Tryd.zeroValue4
 t9 := Tryd.underlying9
 a9 := Tryd.isAgg9
 z9 := Tryd.sizeOf9
 v9 := Tryd.zeroValue9
 t31 := Tryd.underlying47
 a31 := Tryd.isAgg47
 z31 := Tryd.sizeOf47
 v31 := Tryd.zeroValue47 }
open Go.Lib in
theorem Tryd.slices_Contains_string (b off n c : Nat) (zs : List ByteArray) (x : ByteArray) (w : World) (hz : n ≤ zs.length) (hbig : n ≤ 9223372036854775807) (hc : ∀ j, j < zs.length → w.cell? ⟨b, off + j, none⟩ = some (.string (zs.getD j ByteArray.empty))) :
  Calls Tryd.prog 111 #[.slice (some ⟨b, off, none⟩) n c, .string x] w fun e w' => e = .returned (.bool (Lib.containsS (zs.take n) x)) ∧ w' = w := Any.slices_Contains_string Tryd.lays110 b off n c zs x w hz hbig hc
open Go.Lib in
theorem Tryd.slices_Contains_string_empty (a : Option Addr) (c : Nat) (x : ByteArray) (w : World) :
  Calls Tryd.prog 111 #[.slice a 0 c, .string x] w fun e w' => e = .returned (.bool false) ∧ w' = w := Any.slices_Contains_string_empty Tryd.lays110 a c x w
end Go.Proofs

/- Contracts of internal/strconv.lower, ParseUint, ParseInt and strconv.ParseInt at the bases 10 and 16 (64 bits), where all bytes are digits of the base and there is one: the number, or an error where it is 2^63 or more. -/
namespace Go.Proofs.YtdnbaliibiginaaDoor
open Go.RowKit Go.Proofs
def digV (c : Nat) : Nat := if c ≤ 57 then c - 48 else if 97 ≤ c then c - 87 else c - 55
def numFrom (base : Nat) : Nat → List UInt8 → Nat
 | n, [] => n
 | n, c :: l => numFrom base (n * base + digV c.toNat) l
def numN (base : Nat) (l : List UInt8) : Nat := numFrom base 0 l
def pU (T : TypeId) (N : Nat) : Value := if N < 18446744073709551616 then .tuple #[.int .u64 N, .nilIface] else .tuple #[.int .u64 18446744073709551615, .iface T (.int .i64 1)]
end Go.Proofs.YtdnbaliibiginaaDoor

/- What the walks ask of the package-level variables of Go's library; it stands while nothing that lay in memory turns. -/
namespace Go.Proofs.YtdnbaliibiginaaDoor
open Go.RowKit Go.Proofs
structure Std (w : World) : Prop where
 maxLen : ∃ m, w.cell? ⟨2, 0, none⟩ = some (.int .i64 m)
 errRange : ∃ te pe, w.cell? ⟨4, 0, none⟩ = some (.iface te pe)
theorem block_lt {w : World} {a : Addr} {v : Value} (h : w.cell? a = some v) : a.block < w.heap.size := by
 rcases Nat.lt_or_ge a.block w.heap.size with h' | h'
 ·exact h'
 ·simp [World.cell?, Array.getElem?_eq_none h'] at h
theorem cell_keep {w w' : World} {a : Addr} {v : Value} (h : w.cell? a = some v) (hb : Below w.heap.size w w') : w'.cell? a = some v := (hb.cell (block_lt h)).trans h
theorem Std.below {w w' : World} (h : Std w) (hb : Below w.heap.size w w') : Std w' := by
 obtain ⟨⟨m, hm⟩, ⟨te, pe, he⟩⟩ := h
 exact ⟨⟨m, cell_keep hm hb⟩, ⟨te, pe, cell_keep he hb⟩⟩
theorem Std.drewN {w : World} (h : Std w) (n : Nat) : Std (w.drewN n) := h.below (below_drewN (Below.refl _ _) n)
theorem Std.drew {w : World} (h : Std w) : Std w.drew := h.below (Below.refl _ _).drew
theorem Std.alloc {w : World} (h : Std w) (o : Obj) : Std (w.alloc o) := h.below ((Below.refl _ _).alloc (Nat.le_refl _) o)
end Go.Proofs.YtdnbaliibiginaaDoor

/- Contracts of package refs: number, Named, Code: what each returns, whatever it is given; nothing that lay in memory turns. -/
namespace Go.Proofs.YtdnbaliibiginaaDoor
open Go.RowKit Go.Proofs
def numberL (l : List UInt8) : Int :=
 if l = [97, 109, 112] then 38 else if l = [108, 116] then 60 else if l = [103, 116] then 62 else if l = [113, 117, 111, 116] then 34
 else if l = [97, 112, 111, 115] then 39 else if l = [110, 98, 115, 112] then 160 else if l = [99, 111, 112, 121] then 169 else if l = [114, 101, 103] then 174
 else if l = [112, 97, 114, 97] then 182 else if l = [109, 105, 100, 100, 111, 116] then 183 else if l = [101, 97, 99, 117, 116, 101] then 233
 else if l = [97, 117, 109, 108] then 228 else if l = [111, 117, 109, 108] then 246 else if l = [117, 117, 109, 108] then 252 else if l = [115, 122, 108, 105, 103] then 223
 else if l = [101, 117, 114, 111] then 8364 else if l = [104, 101, 108, 108, 105, 112] then 8230 else if l = [110, 100, 97, 115, 104] then 8211
 else if l = [109, 100, 97, 115, 104] then 8212 else if l = [98, 117, 108, 108] then 8226 else if l = [84, 97, 98] then 9 else if l = [78, 101, 119, 76, 105, 110, 101] then 10
 else if l = [99, 111, 108, 111, 110] then 58 else if l = [108, 112, 97, 114] then 40 else 0
def namedL (l : List UInt8) : List UInt8 × Bool := if numberL l = 0 then ([], false) else ((Utf8.encode (numberL l)).data.toList, true)
def codeI (n : Int) : Int := if n < 1 ∨ 1114111 < n ∨ (55296 ≤ n ∧ n ≤ 57343) then 65533 else if n = 13 then 10 else n
def codeL (n : Int) : List UInt8 := (Utf8.encode (codeI n)).data.toList
end Go.Proofs.YtdnbaliibiginaaDoor

/- Contracts of ParseInt (internal/strconv's and strconv's) at digits of the bases 10 and 16, and of refs.coded at these bases. -/
namespace Go.Proofs.YtdnbaliibiginaaDoor
open Go.RowKit Go.Proofs
def PBig (w : World) (e : Ending) (w' : World) : Prop := ∃ p, e = .returned (.tuple #[.int .i64 9223372036854775807, .iface 144 (.pointer (some p))]) ∧ Below w.heap.size w w'
def codedL (base : Nat) (l : List UInt8) : List UInt8 × Bool := if digitsL base l then (codeL (numN base l), true) else ([], false)
end Go.Proofs.YtdnbaliibiginaaDoor

/- Plain functions: a text cut at a byte; what stands between & and ;; a text with characters in the place of their references. No program in sight. -/
namespace Go.Proofs.YtdnbaliibiginaaDoor
open Go.RowKit Go.Proofs
def cut1 (c : UInt8) : List UInt8 → List UInt8 × List UInt8 × Bool
 | [] => ([], [], false)
 | x :: l => if x = c then ([], l, true) else (x :: (cut1 c l).1, (cut1 c l).2.1, (cut1 c l).2.2)
theorem cut1_len (c : UInt8) (l : List UInt8) : (cut1 c l).1.length + (cut1 c l).2.1.length + (if (cut1 c l).2.2 then 1 else 0) = l.length := by
 induction l with
 | nil => rfl
 | cons x l ih =>
  unfold cut1
  by_cases h : x = c
  ·simp [h]
  ·simp only [if_neg h, List.length_cons]
   omega
def kindL (l : List UInt8) : Int := if Lib.hasPrefix l [35, 120] || Lib.hasPrefix l [35, 88] then 2 else if Lib.hasPrefix l [35] then 1 else 0
def meantL (l : List UInt8) : List UInt8 × Bool := if kindL l = 2 then codedL 16 (l.drop 2) else if kindL l = 1 then codedL 10 l.tail else namedL l
def decL : List UInt8 → List UInt8
 | [] => []
 | c :: l => if c = 38 then (if (cut1 59 l).2.2 && (meantL (cut1 59 l).1).2 then (meantL (cut1 59 l).1).1 ++ decL (cut1 59 l).2.1 else 38 :: decL l) else c :: decL l
termination_by l => l.length
decreasing_by
 all_goals simp only [List.length_cons]
 all_goals have := cut1_len 59 l
 all_goals omega
end Go.Proofs.YtdnbaliibiginaaDoor

/- Plain: tokens, and how bytes are cut to tokens. No program in sight. -/
namespace Go.Proofs.YtdnbaliibiginaaDoor
open Go.Proofs
abbrev Txt := List UInt8
structure Tok where
 kind : Int
 name : Txt
 attrs : List (Txt × Txt)
 data : Txt
 self : Bool
 deriving DecidableEq
def spaceB (c : UInt8) : Bool := c == 32 || c == 9 || c == 10 || c == 12 || c == 13
def letterB (c : UInt8) : Bool := (decide (97 ≤ c.toNat) && decide (c.toNat ≤ 122)) || (decide (65 ≤ c.toNat) && decide (c.toNat ≤ 90))
def slashedB (c : UInt8) : Bool := spaceB c || c == 47 || c == 62
def lowB (c : UInt8) : UInt8 := if 65 ≤ c.toNat ∧ c.toNat ≤ 90 then c + 32 else c
def lowL (l : Txt) : Txt := l.map lowB
def rawsL : List Txt := [[105, 102, 114, 97, 109, 101], [110, 111, 101, 109, 98, 101, 100], [110, 111, 102, 114, 97, 109, 101, 115], [115, 99, 114, 105, 112, 116], [115, 116, 121, 108, 101], [120, 109, 112]]
def softsL : List Txt := [[116, 101, 120, 116, 97, 114, 101, 97], [116, 105, 116, 108, 101]]
def inB (L : List Txt) (l : Txt) : Bool := L.contains l
def rawB (l : Txt) : Bool := inB rawsL l
def softB (l : Txt) : Bool := inB softsL l
def letterL : Txt → Bool
 | [] => false
 | c :: _ => letterB c
def attrK (s : Txt) : Nat := 1 + s.tail.findIdx (fun c => slashedB c || c == 61)
def skipS (s : Txt) : Txt := s.drop (s.findIdx (fun c => !spaceB c))
def wordK (s : Txt) : Nat := s.findIdx (fun c => spaceB c || c == 62)
def valF (nm s : Txt) : (Txt × Txt) × Txt × Bool :=
 match s with
 | [] => ((nm, []), [], false)
 | q :: t => if q = 34 ∨ q = 39 then ((nm, decL (cut1 q t).1), (cut1 q t).2.1, (cut1 q t).2.2) else ((nm, decL ((q :: t).take (wordK (q :: t)))), (q :: t).drop (wordK (q :: t)), decide (wordK (q :: t) < (q :: t).length))
def attrR (nm s : Txt) : (Txt × Txt) × Txt × Bool :=
 match skipS s with
 | [] => ((nm, []), [], false)
 | c :: t => if c = 61 then valF nm (skipS t) else ((nm, []), s, true)
def attrF (s : Txt) : (Txt × Txt) × Txt × Bool := attrR (lowL (s.take (attrK s))) (s.drop (attrK s))
def addA (acc : List (Txt × Txt)) (a : Txt × Txt) : List (Txt × Txt) := if acc.any (fun b => b.1 == a.1) then acc else acc ++ [a]
def gapF (s : Txt) : Nat := s.findIdx (fun c => !spaceB c && c != 47)
def slashF (s : Txt) : Bool := decide (0 < gapF s) && (s[gapF s - 1]? == some 47)
def attrsN : Nat → List (Txt × Txt) → Txt → Option (List (Txt × Txt) × Bool × Txt)
 | 0, _, _ => none
 | n + 1, acc, s =>
  match s.drop (gapF s) with
  | [] => none
  | c :: s1 =>
   if c = 62 then some (acc, slashF s, s1)
   else
    let r := attrF (c :: s1)
    if r.2.2 then attrsN n (addA acc r.1) r.2.1 else none
def attrsF (acc : List (Txt × Txt)) (s : Txt) := attrsN (s.length + 1) acc s
def openedF (s : Txt) : Option (Tok × Txt) :=
 (attrsF [] (s.drop (s.findIdx slashedB))).map fun r => (⟨0, lowL (s.take (s.findIdx slashedB)), r.1, [], r.2.1⟩, r.2.2)
def closesB (name s : Txt) : Bool :=
 match s with
 | 60 :: 47 :: r => decide (name.length < r.length) && (lowL (r.take name.length) == lowL name) && (match r.drop name.length with | c :: _ => slashedB c | [] => false)
 | _ => false
def endF (name : Txt) : Txt → Nat
 | [] => 0
 | c :: t => if closesB name (c :: t) then 0 else 1 + endF name t
def insideT (name s : Txt) : List Tok :=
 if s.take (endF name s) = [] then [] else [⟨0, [], [], if softB name then decL (s.take (endF name s)) else s.take (endF name s), false⟩]
def insideR (name s : Txt) : Txt := s.drop (endF name s)
def trimL (s : Txt) : Txt := ((s.dropWhile spaceB).reverse.dropWhile spaceB).reverse
def untilF (s e : Txt) : Txt × Txt := ((Lib.cut s e).1, (Lib.cut s e).2.1)
def noteF (kind : Int) (s e : Txt) : List Tok × Txt := ([⟨kind, [], [], if kind = 4 then trimL (untilF s e).1 else (untilF s e).1, false⟩], (untilF s e).2)
def commentF (s : Txt) : List Tok × Txt :=
 if Lib.hasPrefix s [62] then ([⟨3, [], [], [], false⟩], s.drop 1)
 else if Lib.hasPrefix s [45, 62] then ([⟨3, [], [], [], false⟩], s.drop 2)
 else noteF 3 s (if 0 ≤ Lib.index s [45, 45, 33, 62] ∧ (Lib.index s [45, 45, 62] < 0 ∨ Lib.index s [45, 45, 33, 62] < Lib.index s [45, 45, 62]) then [45, 45, 33, 62] else [45, 45, 62])
def isDoctypeB (s : Txt) : Bool := decide (8 ≤ s.length) && (lowL (s.take 8) == [33, 100, 111, 99, 116, 121, 112, 101]) && !letterL (s.drop 8)
def tagF (kind : Int) (s : Txt) : List Tok × Txt :=
 match openedF s with
 | none => ([], [])
 | some (t, r) =>
  if kind = 2 then ([⟨2, t.name, [], [], false⟩], r)
  else if rawB t.name || softB t.name then (⟨kind, t.name, t.attrs, t.data, t.self⟩ :: insideT t.name r, insideR t.name r)
  else ([⟨kind, t.name, t.attrs, t.data, t.self⟩], r)
def openF (s : Txt) : Option (List Tok × Txt) :=
 if letterL s then some (tagF 1 s)
 else if Lib.hasPrefix s [47] && letterL s.tail then some (tagF 2 s.tail)
 else if Lib.hasPrefix s [47, 62] then some ([], s.drop 2)
 else if Lib.hasPrefix s [33, 45, 45] then some (commentF (s.drop 3))
 else if isDoctypeB s then some (noteF 4 (s.drop 8) [62])
 else if Lib.hasPrefix s [33] then some (noteF 3 s.tail [62])
 else if Lib.hasPrefix s [63] then some (noteF 3 s [62])
 else if decide (1 < s.length) && Lib.hasPrefix s [47] then some (noteF 3 s.tail [62])
 else none
def tellF (t : Txt) : List Tok := if t = [] then [] else [⟨0, [], [], decL t, false⟩]
def textF (s : Txt) : Nat := s.findIdx (fun c => c == 60)
def runN : Nat → Txt → Txt → List Tok
 | 0, t, _ => tellF t
 | n + 1, t, s =>
  match s.drop (textF s) with
  | [] => tellF (t ++ s.take (textF s))
  | _ :: s1 =>
   match openF s1 with
   | none => runN n (t ++ s.take (textF s) ++ [60]) s1
   | some (ts, r) => tellF (t ++ s.take (textF s)) ++ ts ++ runN n [] r
def runF (t s : Txt) : List Tok := runN (s.length + 1) t s
def cutL (s : Txt) : List Tok := runF [] s
def inL (s name : Txt) : List Tok := if rawB name || softB name then insideT name s ++ runF [] (insideR name s) else runF [] s
end Go.Proofs.YtdnbaliibiginaaDoor
