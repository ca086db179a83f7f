/-
  DERIVED: THE SHELF's CONTRACTS AT THIS DUMP, IN PLAIN WORDS (tools/lay-plain.mjs out of 'TryzShelf.lean', which tools/lay-shelf.mjs wrote): THE SAME DECLARATIONS UNDER THE SAME NAMES: 'import', 'namespace', 'open', 'def', 'theorem' AND NOTHING ELSE: no command of the shelf's: FOR A HAND-IN. Each laying: the table of numbers ('.._ren') and one theorem, a field a fact of the dump's own or the kernel's comparison; each contract: ONE APPLICATION.
-/
import Derived.Shelf.Strings.Builder1
import Derived.Shelf.Strings.Builder2
import Derived.Shelf.Strings.OnBuilder
import Derived.Shelf.Small.Utf8
import Derived.Shelf.Strings.BuilderF
import Derived.Shelf.Strings.BuilderK
import Derived.Shelf.Strings.BuilderRune
import Derived.Shelf.Strconv.Itoa0
import Derived.Shelf.Strconv.Itoa1
import Derived.Shelf.LaysM
import Derived.Shelf.Strconv.Itoa2
import Derived.Shelf.Strconv.Itoa3
import Derived.Shelf.Strings.Search1
import Derived.Shelf.Strings.Search2
import Derived.Shelf.Strings.Search3
import Derived.Shelf.Strings.Cut
import Derived.Shelf.Strings.Count
import Derived.Shelf.Strings.Shaped
import Derived.Shelf.Strings.Prefix
import Derived.Shelf.Strings.Split
import Derived.Shelf.Strings.Fields
import Derived.Shelf.Strings.Replace
import Derived.Shelf.Strings.SplitShaped
import Derived.Shelf.Unicode.Latin
import Derived.Shelf.Bits.Mul64
import Derived.Shelf.Strings.Repeat
import Derived.Shelf.Unicode.DecodeSlow
import Derived.Shelf.Unicode.DecodeAny
import Derived.Shelf.Unicode.Is16White
import Derived.Shelf.Unicode.IsSpaceAny
import Derived.Shelf.Unicode.CaseLookup
import Derived.Shelf.Unicode.CaseConvert
import Derived.Shelf.Unicode.CaseTo
import Derived.Shelf.Unicode.CaseLaid
import Derived.Shelf.Unicode.Is16Any
import Derived.Shelf.Unicode.Is32Any
import Derived.Shelf.Unicode.ExclAny
import Derived.Test.YtnhgmdfmhmkpgaaGreatDoorProg
namespace Go.Proofs
open Go.Shelf
def Tryz.lays170_ren : Go.Shelf.Ren := ⟨fun | 170 => 76 | n => n, fun | 70 => 64 | 3 => 3 | 0 => 0 | 72 => 66 | 37 => 25 | 5 => 5 | n => n, fun | n => n⟩
theorem Tryz.lays170 : Go.Proofs.Lays.n170 Tryz.prog Tryz.lays170_ren := {
  mixed := by kernel_rfl
  f170 := Tryz.func76.trans (congrArg some (by kernel_rfl))
  t0 := Tryz.underlying0
  a0 := Tryz.isAgg0
  z0 := Tryz.sizeOf0
  v0 := Tryz.zeroValue0
  t3 := Tryz.underlying3
  a3 := Tryz.isAgg3
  z3 := Tryz.sizeOf3
  v3 := Tryz.zeroValue3
  t37 := Tryz.underlying25
  a37 := Tryz.isAgg25
  z37 := Tryz.sizeOf25
  v37 := Tryz.zeroValue25
  t70 := Tryz.underlying64
  a70 := Tryz.isAgg64
  z70 := Tryz.sizeOf64
  v70 := Tryz.zeroValue64
  t72 := Tryz.underlying66
  a72 := Tryz.isAgg66
  z72 := Tryz.sizeOf66
  v72 := Tryz.zeroValue66 }
open Go.RowKit in
/-- (*strings.Builder).Len: "Len returns the number of accumulated bytes; b.Len() == len(b.String()).": the world is as it was. (LAID: no walk: one application.) -/
theorem Tryz.Builder_Len (B b : Nat) (bs : List Value) (w : World) (h : Lib.IsBuilder 66 5 B b bs w) :
    Calls Tryz.prog 76 #[.pointer (some ⟨b, 0, none⟩)] w fun e w' => e = .returned (.int .i64 bs.length) ∧ w' = w := Any.Builder_Len Tryz.lays170 B b bs w h
def Tryz.lays169_ren : Go.Shelf.Ren := ⟨fun | 169 => 55 | n => n, fun | 70 => 64 | 9 => 9 | 0 => 0 | 72 => 66 | 37 => 25 | 127 => 84 | 3 => 3 | 5 => 5 | n => n, fun | n => n⟩
theorem Tryz.lays169 : Go.Proofs.Lays.n169 Tryz.prog Tryz.lays169_ren := {
  mixed := by kernel_rfl
  f169 := Tryz.func55.trans (congrArg some (by kernel_rfl))
  t0 := Tryz.underlying0
  a0 := Tryz.isAgg0
  z0 := Tryz.sizeOf0
  v0 := Tryz.zeroValue0
  t3 := Tryz.underlying3
  a3 := Tryz.isAgg3
  z3 := Tryz.sizeOf3
  v3 := Tryz.zeroValue3
  t9 := Tryz.underlying9
  a9 := Tryz.isAgg9
  z9 := Tryz.sizeOf9
  v9 := Tryz.zeroValue9
  t37 := Tryz.underlying25
  a37 := Tryz.isAgg25
  z37 := Tryz.sizeOf25
  v37 := Tryz.zeroValue25
  t70 := Tryz.underlying64
  a70 := Tryz.isAgg64
  z70 := Tryz.sizeOf64
  v70 := Tryz.zeroValue64
  t72 := Tryz.underlying66
  a72 := Tryz.isAgg66
  z72 := Tryz.sizeOf66
  v72 := Tryz.zeroValue66
  t127 := Tryz.underlying84
  a127 := Tryz.isAgg84
  z127 := Tryz.sizeOf84
  v127 := Tryz.zeroValue84 }
theorem Tryz.Builder_Extra_169 : Builder.Extra Tryz.prog Tryz.lays169_ren := {
  sizeBuilder := by kernel_rfl
  liesBuilder := by kernel_rfl
  t5 := Tryz.underlying5
  a5 := Tryz.isAgg5
  z5 := Tryz.sizeOf5
  v5 := Tryz.zeroValue5
  infoByte := by kernel_rfl
  cellsByte := by kernel_rfl
  sizeByte := by kernel_rfl
  neB5 := by decide }
open Go.RowKit in
/-- (*strings.Builder).String: "String returns the accumulated string.": OF A BUILDER THAT HOLDS AT LEAST ONE BYTE. ✋ THE MODEL FREEZES THOSE BYTES IN THE BUFFER (unsafe.String): a later write INTO them ends the model's run without an answer; a later append BEHIND them goes on. The statement's order of evaluation is drawn: one draw. (LAID: no walk: one application.) -/
theorem Tryz.Builder_String (B b : Nat) (l : List UInt8) (w : World) (h : Lib.IsBuilder 66 5 B b (Lib.byteCells l) w) (h0 : l ≠ []) :
    Calls Tryz.prog 55 #[.pointer (some ⟨b, 0, none⟩)] w fun e w' => e = .returned (.string ⟨l.toArray⟩) ∧ Below B w w' := Any.Builder_String Tryz.lays169 Tryz.Builder_Extra_169 B b l w h h0
open Go.RowKit in
/-- (*strings.Builder).String OF A BUILDER THAT HOLDS NO BYTE: the empty string. (Its buffer is nil, or a row of which it has taken nothing yet; where that row has NO capacity the model lays one new block for unsafe.SliceData's 'some address'.) One draw. (LAID: no walk: one application.) -/
theorem Tryz.Builder_String_empty (B b : Nat) (w : World) (h : Lib.IsBuilder 66 5 B b [] w) (hBw : B ≤ w.heap.size) :
    Calls Tryz.prog 55 #[.pointer (some ⟨b, 0, none⟩)] w fun e w' => e = .returned (.string ⟨#[]⟩) ∧ Below B w w' := Any.Builder_String_empty Tryz.lays169 Tryz.Builder_Extra_169 B b w h hBw
open Go.RowKit in
/-- (*strings.Builder).String: "String returns the accumulated string.": WHATEVER THE BUILDER HOLDS. (LAID: no walk: one application.) -/
theorem Tryz.Builder_String_any (B b : Nat) (l : List UInt8) (w : World) (h : Lib.IsBuilder 66 5 B b (Lib.byteCells l) w) (hBw : B ≤ w.heap.size) :
    Calls Tryz.prog 55 #[.pointer (some ⟨b, 0, none⟩)] w fun e w' => e = .returned (.string ⟨l.toArray⟩) ∧ Below B w w' := Any.Builder_String_any Tryz.lays169 Tryz.Builder_Extra_169 B b l w h hBw
def Tryz.lays241_ren : Go.Shelf.Ren := ⟨fun | 241 => 68 | 277 => 87 | n => n, fun | 70 => 64 | 3 => 3 | 0 => 0 | 72 => 66 | 37 => 25 | 5 => 5 | n => n, fun | n => n⟩
theorem Tryz.lays241 : Go.Proofs.Lays.n241 Tryz.prog Tryz.lays241_ren := {
  mixed := by kernel_rfl
  f241 := Tryz.func68.trans (congrArg some (by kernel_rfl))
  f277 := Tryz.func87.trans (congrArg some (by kernel_rfl))
  t0 := Tryz.underlying0
  a0 := Tryz.isAgg0
  z0 := Tryz.sizeOf0
  v0 := Tryz.zeroValue0
  t3 := Tryz.underlying3
  a3 := Tryz.isAgg3
  z3 := Tryz.sizeOf3
  v3 := Tryz.zeroValue3
  t37 := Tryz.underlying25
  a37 := Tryz.isAgg25
  z37 := Tryz.sizeOf25
  v37 := Tryz.zeroValue25
  t70 := Tryz.underlying64
  a70 := Tryz.isAgg64
  z70 := Tryz.sizeOf64
  v70 := Tryz.zeroValue64
  t72 := Tryz.underlying66
  a72 := Tryz.isAgg66
  z72 := Tryz.sizeOf66
  v72 := Tryz.zeroValue66 }
theorem Tryz.Builder_Extra_241 : Builder.Extra Tryz.prog Tryz.lays241_ren := {
  sizeBuilder := by kernel_rfl
  liesBuilder := by kernel_rfl
  t5 := Tryz.underlying5
  a5 := Tryz.isAgg5
  z5 := Tryz.sizeOf5
  v5 := Tryz.zeroValue5
  infoByte := by kernel_rfl
  cellsByte := by kernel_rfl
  sizeByte := by kernel_rfl
  neB5 := by decide }
open Go.RowKit in
/-- (*strings.Builder).grow (no doc but "grow copies the buffer to a new, larger buffer so that there are at least n bytes of capacity beyond len(b.buf)."): AT A BUILDER WITHOUT A BUFFER: a new row of whatever bytes for its buffer, none of them its own yet. Three draws. (LAID: no walk: one application.) -/
theorem Tryz.Builder_grow_fresh (B b n : Nat) (w : World) (hB : B ≤ b) (hbk : w.heap[b]? = some (.cells #[.pointer (some ⟨b, 0, none⟩), .slice none 0 0] 66 (0, 0))) (hBw : B ≤ w.heap.size) (hn : n ≤ 281474976710656) :
    Calls Tryz.prog 68 #[.pointer (some ⟨b, 0, none⟩), .int .i64 n] w fun e w' => e = .returned (.tuple #[]) ∧ (Lib.BuilderAt 66 5 B b (.pointer (some ⟨b, 0, none⟩)) [] w' ∧ Below B w w') := Any.Builder_grow_fresh Tryz.lays241 Tryz.Builder_Extra_241 B b n w hB hbk hBw hn
def Tryz.lays165_ren : Go.Shelf.Ren := ⟨fun | 165 => 52 | 240 => 67 | 241 => 68 | 276 => 86 | 277 => 87 | n => n, fun | 70 => 64 | 3 => 3 | 0 => 0 | 4 => 4 | 9 => 9 | 20 => 20 | 72 => 66 | 37 => 25 | 164 => 105 | 5 => 5 | n => n, fun | n => n⟩
theorem Tryz.lays165 : Go.Proofs.Lays.n165 Tryz.prog Tryz.lays165_ren := {
  mixed := by kernel_rfl
  f165 := Tryz.func52.trans (congrArg some (by kernel_rfl))
  f240 := Tryz.func67.trans (congrArg some (by kernel_rfl))
  f241 := Tryz.func68.trans (congrArg some (by kernel_rfl))
  f276 := Tryz.func86.trans (congrArg some (by kernel_rfl))
  f277 := Tryz.func87.trans (congrArg some (by kernel_rfl))
  t0 := Tryz.underlying0
  a0 := Tryz.isAgg0
  z0 := Tryz.sizeOf0
  v0 := Tryz.zeroValue0
  t3 := Tryz.underlying3
  a3 := Tryz.isAgg3
  z3 := Tryz.sizeOf3
  v3 := Tryz.zeroValue3
  t4 := Tryz.underlying4
  a4 := Tryz.isAgg4
  z4 := Tryz.sizeOf4
  v4 := Tryz.zeroValue4
  t9 := Tryz.underlying9
  a9 := Tryz.isAgg9
  z9 := Tryz.sizeOf9
  v9 := Tryz.zeroValue9
  t20 := Tryz.underlying20
  a20 := Tryz.isAgg20
  z20 := Tryz.sizeOf20
  v20 := Tryz.zeroValue20
  t37 := Tryz.underlying25
  a37 := Tryz.isAgg25
  z37 := Tryz.sizeOf25
  v37 := Tryz.zeroValue25
  t70 := Tryz.underlying64
  a70 := Tryz.isAgg64
  z70 := Tryz.sizeOf64
  v70 := Tryz.zeroValue64
  t72 := Tryz.underlying66
  a72 := Tryz.isAgg66
  z72 := Tryz.sizeOf66
  v72 := Tryz.zeroValue66
  t164 := Tryz.underlying105
  a164 := Tryz.isAgg105
  z164 := Tryz.sizeOf105
  v164 := Tryz.zeroValue105 }
theorem Tryz.Builder_Extra_165 : Builder.Extra Tryz.prog Tryz.lays165_ren := {
  sizeBuilder := by kernel_rfl
  liesBuilder := by kernel_rfl
  t5 := Tryz.underlying5
  a5 := Tryz.isAgg5
  z5 := Tryz.sizeOf5
  v5 := Tryz.zeroValue5
  infoByte := by kernel_rfl
  cellsByte := by kernel_rfl
  sizeByte := by kernel_rfl
  neB5 := by decide }
open Go.RowKit in
/-- (*strings.Builder).Grow AT A BUILDER THAT HAS NOT BEEN WRITTEN ('var b strings.Builder; b.Grow(n)'): "Grow grows b's capacity, if necessary, to guarantee space for another n bytes.": it holds no byte behind it as before it. (LAID: no walk: one application.) -/
theorem Tryz.Builder_Grow_fresh (B b n : Nat) (w : World) (hB : B ≤ b) (hbk : w.heap[b]? = some (.cells #[.pointer none, .slice none 0 0] 66 (0, 0))) (hBw : B ≤ w.heap.size) (hn : n ≤ 281474976710656) :
    Calls Tryz.prog 52 #[.pointer (some ⟨b, 0, none⟩), .int .i64 n] w fun e w' => e = .returned (.tuple #[]) ∧ (Lib.BuilderAt 66 5 B b (.pointer (some ⟨b, 0, none⟩)) [] w' ∧ Below B w w') := Any.Builder_Grow_fresh Tryz.lays165 Tryz.Builder_Extra_165 B b n w hB hbk hBw hn
def Tryz.lays158_ren : Go.Shelf.Ren := ⟨fun | 158 => 58 | 165 => 52 | 166 => 53 | 167 => 71 | 169 => 55 | 230 => 72 | 203 => 73 | 240 => 67 | 241 => 68 | 197 => 54 | 118 => 88 | 168 => 89 | 270 => 90 | 262 => 91 | 276 => 86 | 277 => 87 | 260 => 69 | 242 => 104 | 313 => 105 | 278 => 108 | 274 => 109 | 275 => 110 | n => n, fun | 9 => 9 | 4 => 4 | 3 => 3 | 5 => 5 | 72 => 66 | 0 => 0 | 76 => 70 | 75 => 69 | 107 => 88 | 70 => 64 | 20 => 20 | 37 => 25 | 127 => 84 | 21 => 21 | 105 => 72 | 164 => 105 | 162 => 138 | 203 => 136 | 119 => 79 | 46 => 50 | 139 => 110 | 138 => 109 | 51 => 95 | 160 => 142 | 208 => 150 | 206 => 148 | 80 => 74 | n => n, fun | 13 => 6 | 3 => 3 | 4 => 4 | n => n⟩
theorem Tryz.lays158 : Go.Proofs.Lays.n158 Tryz.prog Tryz.lays158_ren := {
  mixed := by kernel_rfl
  f118 := Tryz.func88.trans (congrArg some (by kernel_rfl))
  f158 := Tryz.func58.trans (congrArg some (by kernel_rfl))
  f165 := Tryz.func52.trans (congrArg some (by kernel_rfl))
  f166 := Tryz.func53.trans (congrArg some (by kernel_rfl))
  f167 := Tryz.func71.trans (congrArg some (by kernel_rfl))
  f168 := Tryz.func89.trans (congrArg some (by kernel_rfl))
  f169 := Tryz.func55.trans (congrArg some (by kernel_rfl))
  f197 := Tryz.func54.trans (congrArg some (by kernel_rfl))
  f203 := Tryz.func73.trans (congrArg some (by kernel_rfl))
  f230 := Tryz.func72.trans (congrArg some (by kernel_rfl))
  f240 := Tryz.func67.trans (congrArg some (by kernel_rfl))
  f241 := Tryz.func68.trans (congrArg some (by kernel_rfl))
  f242 := Tryz.func104.trans (congrArg some (by kernel_rfl))
  f260 := Tryz.func69.trans (congrArg some (by kernel_rfl))
  f262 := Tryz.func91.trans (congrArg some (by kernel_rfl))
  f270 := Tryz.func90.trans (congrArg some (by kernel_rfl))
  f274 := Tryz.func109.trans (congrArg some (by kernel_rfl))
  f275 := Tryz.func110.trans (congrArg some (by kernel_rfl))
  f276 := Tryz.func86.trans (congrArg some (by kernel_rfl))
  f277 := Tryz.func87.trans (congrArg some (by kernel_rfl))
  f278 := Tryz.func108.trans (congrArg some (by kernel_rfl))
  f313 := Tryz.func105.trans (congrArg some (by kernel_rfl))
  t0 := Tryz.underlying0
  a0 := Tryz.isAgg0
  z0 := Tryz.sizeOf0
  v0 := Tryz.zeroValue0
  t3 := Tryz.underlying3
  a3 := Tryz.isAgg3
  z3 := Tryz.sizeOf3
  v3 := Tryz.zeroValue3
  t4 := Tryz.underlying4
  a4 := Tryz.isAgg4
  z4 := Tryz.sizeOf4
  v4 := Tryz.zeroValue4
  t5 := Tryz.underlying5
  a5 := Tryz.isAgg5
  z5 := Tryz.sizeOf5
  v5 := Tryz.zeroValue5
  t9 := Tryz.underlying9
  a9 := Tryz.isAgg9
  z9 := Tryz.sizeOf9
  v9 := Tryz.zeroValue9
  t20 := Tryz.underlying20
  a20 := Tryz.isAgg20
  z20 := Tryz.sizeOf20
  v20 := Tryz.zeroValue20
  t21 := Tryz.underlying21
  a21 := Tryz.isAgg21
  z21 := Tryz.sizeOf21
  v21 := Tryz.zeroValue21
  t37 := Tryz.underlying25
  a37 := Tryz.isAgg25
  z37 := Tryz.sizeOf25
  v37 := Tryz.zeroValue25
  t46 := Tryz.underlying50
  a46 := Tryz.isAgg50
  z46 := Tryz.sizeOf50
  v46 := Tryz.zeroValue50
  t51 := Tryz.underlying95
  a51 := Tryz.isAgg95
  z51 := Tryz.sizeOf95
  v51 := Tryz.zeroValue95
  t70 := Tryz.underlying64
  a70 := Tryz.isAgg64
  z70 := Tryz.sizeOf64
  v70 := Tryz.zeroValue64
  t72 := Tryz.underlying66
  a72 := Tryz.isAgg66
  z72 := Tryz.sizeOf66
  v72 := Tryz.zeroValue66
  t75 := Tryz.underlying69
  a75 := Tryz.isAgg69
  z75 := Tryz.sizeOf69
  v75 := Tryz.zeroValue69
  t76 := Tryz.underlying70
  a76 := Tryz.isAgg70
  z76 := Tryz.sizeOf70
  v76 := Tryz.zeroValue70
  t105 := Tryz.underlying72
  a105 := Tryz.isAgg72
  z105 := Tryz.sizeOf72
  v105 := Tryz.zeroValue72
  t107 := Tryz.underlying88
  a107 := Tryz.isAgg88
  z107 := Tryz.sizeOf88
  v107 := Tryz.zeroValue88
  t119 := Tryz.underlying79
  a119 := Tryz.isAgg79
  z119 := Tryz.sizeOf79
  t127 := Tryz.underlying84
  a127 := Tryz.isAgg84
  z127 := Tryz.sizeOf84
  v127 := Tryz.zeroValue84
  t138 := Tryz.underlying109
  a138 := Tryz.isAgg109
  z138 := Tryz.sizeOf109
  v138 := Tryz.zeroValue109
  t139 := Tryz.underlying110
  a139 := Tryz.isAgg110
  z139 := Tryz.sizeOf110
  v139 := Tryz.zeroValue110
  t160 := Tryz.underlying142
  a160 := Tryz.isAgg142
  z160 := Tryz.sizeOf142
  v160 := Tryz.zeroValue142
  t162 := Tryz.underlying138
  a162 := Tryz.isAgg138
  z162 := Tryz.sizeOf138
  v162 := Tryz.zeroValue138
  t164 := Tryz.underlying105
  a164 := Tryz.isAgg105
  z164 := Tryz.sizeOf105
  v164 := Tryz.zeroValue105
  t203 := Tryz.underlying136
  a203 := Tryz.isAgg136
  z203 := Tryz.sizeOf136
  v203 := Tryz.zeroValue136
  t206 := Tryz.underlying148
  a206 := Tryz.isAgg148
  z206 := Tryz.sizeOf148
  v206 := Tryz.zeroValue148
  t208 := Tryz.underlying150
  a208 := Tryz.isAgg150
  z208 := Tryz.sizeOf150
  v208 := Tryz.zeroValue150
  g3 := by kernel_rfl
  g4 := by kernel_rfl
  g13 := by kernel_rfl }
theorem Tryz.Builder_Extra_158 : Builder.Extra Tryz.prog Tryz.lays158_ren := {
  sizeBuilder := by kernel_rfl
  liesBuilder := by kernel_rfl
  t5 := Tryz.underlying5
  a5 := Tryz.isAgg5
  z5 := Tryz.sizeOf5
  v5 := Tryz.zeroValue5
  infoByte := by kernel_rfl
  cellsByte := by kernel_rfl
  sizeByte := by kernel_rfl
  neB5 := by decide }
open Go.RowKit in
/-- strings.ToUpper: "ToUpper returns s with all Unicode letters mapped to their upper case.": ON ASCII TEXT OF AT MOST 2^47 BYTES. Below the heap's end the world is as it was: where a letter turns, the call makes a builder and its buffer. (LAID: no walk: one application.) -/
theorem Tryz.strings_ToUpper_ascii (s : ByteArray) (w : World) (hs : s.size ≤ 140737488355328) (hascii : ∀ (j : Nat) (b : UInt8), s.data.toList[j]? = some b → b.toNat < 128) :
    Calls Tryz.prog 58 #[.string s] w fun e w' => e = .returned (.string ⟨(Lib.toUpperA s.data.toList).toArray⟩) ∧ Below w.heap.size w w' := Any.strings_ToUpper_ascii Tryz.lays158 Tryz.Builder_Extra_158 s w hs hascii
def Tryz.lays156_ren : Go.Shelf.Ren := ⟨fun | 156 => 40 | 165 => 52 | 166 => 53 | 169 => 55 | 240 => 67 | 241 => 68 | 276 => 86 | 277 => 87 | n => n, fun | 31 => 38 | 9 => 9 | 3 => 3 | 4 => 4 | 0 => 0 | 20 => 20 | 72 => 66 | 76 => 70 | 70 => 64 | 37 => 25 | 75 => 69 | 127 => 84 | 164 => 105 | 5 => 5 | 80 => 74 | n => n, fun | n => n⟩
theorem Tryz.lays156 : Go.Proofs.Lays.n156 Tryz.prog Tryz.lays156_ren := {
  mixed := by kernel_rfl
  f156 := Tryz.func40.trans (congrArg some (by kernel_rfl))
  f165 := Tryz.func52.trans (congrArg some (by kernel_rfl))
  f166 := Tryz.func53.trans (congrArg some (by kernel_rfl))
  f169 := Tryz.func55.trans (congrArg some (by kernel_rfl))
  f240 := Tryz.func67.trans (congrArg some (by kernel_rfl))
  f241 := Tryz.func68.trans (congrArg some (by kernel_rfl))
  f276 := Tryz.func86.trans (congrArg some (by kernel_rfl))
  f277 := Tryz.func87.trans (congrArg some (by kernel_rfl))
  t0 := Tryz.underlying0
  a0 := Tryz.isAgg0
  z0 := Tryz.sizeOf0
  v0 := Tryz.zeroValue0
  t3 := Tryz.underlying3
  a3 := Tryz.isAgg3
  z3 := Tryz.sizeOf3
  v3 := Tryz.zeroValue3
  t4 := Tryz.underlying4
  a4 := Tryz.isAgg4
  z4 := Tryz.sizeOf4
  v4 := Tryz.zeroValue4
  t9 := Tryz.underlying9
  a9 := Tryz.isAgg9
  z9 := Tryz.sizeOf9
  v9 := Tryz.zeroValue9
  t20 := Tryz.underlying20
  a20 := Tryz.isAgg20
  z20 := Tryz.sizeOf20
  v20 := Tryz.zeroValue20
  t31 := Tryz.underlying38
  a31 := Tryz.isAgg38
  z31 := Tryz.sizeOf38
  v31 := Tryz.zeroValue38
  t37 := Tryz.underlying25
  a37 := Tryz.isAgg25
  z37 := Tryz.sizeOf25
  v37 := Tryz.zeroValue25
  t70 := Tryz.underlying64
  a70 := Tryz.isAgg64
  z70 := Tryz.sizeOf64
  v70 := Tryz.zeroValue64
  t72 := Tryz.underlying66
  a72 := Tryz.isAgg66
  z72 := Tryz.sizeOf66
  v72 := Tryz.zeroValue66
  t75 := Tryz.underlying69
  a75 := Tryz.isAgg69
  z75 := Tryz.sizeOf69
  v75 := Tryz.zeroValue69
  t76 := Tryz.underlying70
  a76 := Tryz.isAgg70
  z76 := Tryz.sizeOf70
  v76 := Tryz.zeroValue70
  t127 := Tryz.underlying84
  a127 := Tryz.isAgg84
  z127 := Tryz.sizeOf84
  v127 := Tryz.zeroValue84
  t164 := Tryz.underlying105
  a164 := Tryz.isAgg105
  z164 := Tryz.sizeOf105
  v164 := Tryz.zeroValue105 }
theorem Tryz.Builder_Extra_156 : Builder.Extra Tryz.prog Tryz.lays156_ren := {
  sizeBuilder := by kernel_rfl
  liesBuilder := by kernel_rfl
  t5 := Tryz.underlying5
  a5 := Tryz.isAgg5
  z5 := Tryz.sizeOf5
  v5 := Tryz.zeroValue5
  infoByte := by kernel_rfl
  cellsByte := by kernel_rfl
  sizeByte := by kernel_rfl
  neB5 := by decide }
open Go.RowKit in
/-- No element: the empty string; the world is as it was. (Whatever the slice's address and capacity: a nil slice too.) (LAID: no walk: one application.) -/
theorem Tryz.strings_Join_none (a : Option Addr) (c : Nat) (sep : ByteArray) (w : World) :
    Calls Tryz.prog 40 #[.slice a 0 c, .string sep] w fun e w' => e = .returned (.string ⟨#[]⟩) ∧ w' = w := Any.strings_Join_none Tryz.lays156 Tryz.Builder_Extra_156 a c sep w
open Go.RowKit in
/-- strings.Join: "Join concatenates the elements of its first argument to create a single string. The separator string sep is placed between elements in the resulting string.": HOWEVER MANY ELEMENTS. Below the heap's end the world is as it was. (LAID: no walk: one application.) -/
theorem Tryz.strings_Join (bk o c : Nat) (xs : List ByteArray) (sep : ByteArray) (w : World) (hcells : ∀ (j : Nat) x, xs[j]? = some x → w.cell? ⟨bk, o + j, none⟩ = some (.string x)) (hbk : bk < w.heap.size) (hN : xs.length ≤ 140737488355328) (hcap : xs.length ≤ c) (hlen : (Lib.join (xs.map (·.data.toList)) sep.data.toList).length ≤ 140737488355328) :
    Calls Tryz.prog 40 #[.slice (some ⟨bk, o, none⟩) xs.length c, .string sep] w fun e w' => e = .returned (.string ⟨(Lib.join (xs.map (·.data.toList)) sep.data.toList).toArray⟩) ∧ Below w.heap.size w w' := Any.strings_Join Tryz.lays156 Tryz.Builder_Extra_156 bk o c xs sep w hcells hbk hN hcap hlen
def Tryz.lays118_ren : Go.Shelf.Ren := ⟨fun | 118 => 88 | n => n, fun | 21 => 21 | 3 => 3 | 4 => 4 | n => n, fun | n => n⟩
theorem Tryz.lays118 : Go.Proofs.Lays.n118 Tryz.prog Tryz.lays118_ren := {
  mixed := by kernel_rfl
  f118 := Tryz.func88.trans (congrArg some (by kernel_rfl))
  t3 := Tryz.underlying3
  a3 := Tryz.isAgg3
  z3 := Tryz.sizeOf3
  v3 := Tryz.zeroValue3
  t4 := Tryz.underlying4
  a4 := Tryz.isAgg4
  z4 := Tryz.sizeOf4
  v4 := Tryz.zeroValue4
  t21 := Tryz.underlying21
  a21 := Tryz.isAgg21
  z21 := Tryz.sizeOf21
  v21 := Tryz.zeroValue21 }
/-- utf8.RuneLen: "RuneLen returns the number of bytes in the UTF-8 encoding of the rune. It returns -1 if the rune is not a valid value to encode in UTF-8.": IT RETURNS 'Lib.runeLen r'; the world is as it was. (LAID: no walk: one application.) -/
theorem Tryz.utf8_RuneLen (r : Int) (w : World) :
    Calls Tryz.prog 88 #[.int .i32 r] w fun e w' => e = .returned (.int .i64 (Lib.runeLen r)) ∧ w' = w := Any.utf8_RuneLen Tryz.lays118 r w
open Go.RowKit in
/-- (*strings.Builder).Len: "Len returns the number of accumulated bytes; b.Len() == len(b.String()).": the world is as it was. (THE FORM '_f': 'Lib.IsBuilderF'.) (LAID: no walk: one application.) -/
theorem Tryz.Builder_Len_f (B b : Nat) (bs : List Value) (w : World) (h : Lib.IsBuilderF 66 5 B b bs w) :
    Calls Tryz.prog 76 #[.pointer (some ⟨b, 0, none⟩)] w fun e w' => e = .returned (.int .i64 bs.length) ∧ w' = w := Any.Builder_Len_f Tryz.lays170 B b bs w h
open Go.RowKit in
/-- (*strings.Builder).String: "String returns the accumulated string.": OF A BUILDER THAT HOLDS AT LEAST ONE BYTE. ✋ THE MODEL FREEZES THOSE BYTES IN THE BUFFER (unsafe.String): a later write INTO them ends the model's run without an answer; a later append BEHIND them goes on. The statement's order of evaluation is drawn: one draw. THE FORM '_f': IT SAYS BESIDES THAT THE BUILDER IS A BUILDER STILL ('Lib.IsBuilderF', the same bytes): SO IT CAN BE WRITTEN ON: 'b.WriteString(b.String()[:k])'. (LAID: no walk: one application.) -/
theorem Tryz.Builder_String_f (B b : Nat) (l : List UInt8) (w : World) (h : Lib.IsBuilderF 66 5 B b (Lib.byteCells l) w) (h0 : l ≠ []) :
    Calls Tryz.prog 55 #[.pointer (some ⟨b, 0, none⟩)] w fun e w' => e = .returned (.string ⟨l.toArray⟩) ∧ (Lib.IsBuilderF 66 5 B b (Lib.byteCells l) w' ∧ Below B w w') := Any.Builder_String_f Tryz.lays169 Tryz.Builder_Extra_169 B b l w h h0
open Go.RowKit in
/-- (*strings.Builder).String OF A BUILDER THAT HOLDS NO BYTE: the empty string; THE FORM '_f': a builder still. (LAID: no walk: one application.) -/
theorem Tryz.Builder_String_empty_f (B b : Nat) (w : World) (h : Lib.IsBuilderF 66 5 B b [] w) (hBw : B ≤ w.heap.size) :
    Calls Tryz.prog 55 #[.pointer (some ⟨b, 0, none⟩)] w fun e w' => e = .returned (.string ⟨#[]⟩) ∧ (Lib.IsBuilderF 66 5 B b [] w' ∧ Below B w w') := Any.Builder_String_empty_f Tryz.lays169 Tryz.Builder_Extra_169 B b w h hBw
open Go.RowKit in
/-- (*strings.Builder).String: "String returns the accumulated string.": WHATEVER THE BUILDER HOLDS; THE FORM '_f': OF A BUILDER THAT MAY HAVE BEEN READ BEFORE; AND IT IS A BUILDER STILL, holding the same bytes: it can be written on. (LAID: no walk: one application.) -/
theorem Tryz.Builder_String_any_f (B b : Nat) (l : List UInt8) (w : World) (h : Lib.IsBuilderF 66 5 B b (Lib.byteCells l) w) (hBw : B ≤ w.heap.size) :
    Calls Tryz.prog 55 #[.pointer (some ⟨b, 0, none⟩)] w fun e w' => e = .returned (.string ⟨l.toArray⟩) ∧ (Lib.IsBuilderF 66 5 B b (Lib.byteCells l) w' ∧ Below B w w') := Any.Builder_String_any_f Tryz.lays169 Tryz.Builder_Extra_169 B b l w h hBw
open Go.RowKit in
/-- (*strings.Builder).String: "String returns the accumulated string.": OF A BUILDER THAT HOLDS AT LEAST ONE BYTE. ✋ THE MODEL FREEZES THOSE BYTES IN THE BUFFER (unsafe.String): a later write INTO them ends the model's run without an answer; a later append BEHIND them goes on. The statement's order of evaluation is drawn: one draw. THE FORM '_k': OVER 'Lib.IsBuilderF' (a builder that 'String()' may have read), AND WITH THE FRAME THAT REACHES ABOVE THE BUILDER: 'Lib.OthersKept': every block that is not b and is no row of uint8's stands as it stood: the iterator of a range among them. (LAID: no walk: one application.) -/
theorem Tryz.Builder_String_k (B b : Nat) (l : List UInt8) (w : World) (h : Lib.IsBuilderF 66 5 B b (Lib.byteCells l) w) (h0 : l ≠ []) :
    Calls Tryz.prog 55 #[.pointer (some ⟨b, 0, none⟩)] w fun e w' => e = .returned (.string ⟨l.toArray⟩) ∧ (Lib.IsBuilderF 66 5 B b (Lib.byteCells l) w' ∧ Below B w w' ∧ Lib.OthersKept 5 (some b) w w') := Any.Builder_String_k Tryz.lays169 Tryz.Builder_Extra_169 B b l w h h0
open Go.RowKit in
/-- (*strings.Builder).String OF A BUILDER THAT HOLDS NO BYTE: the empty string; THE FORM '_k': OVER 'Lib.IsBuilderF' (a builder that 'String()' may have read), AND WITH THE FRAME THAT REACHES ABOVE THE BUILDER: 'Lib.OthersKept': every block that is not b and is no row of uint8's stands as it stood: the iterator of a range among them. (LAID: no walk: one application.) -/
theorem Tryz.Builder_String_empty_k (B b : Nat) (w : World) (h : Lib.IsBuilderF 66 5 B b [] w) (hBw : B ≤ w.heap.size) :
    Calls Tryz.prog 55 #[.pointer (some ⟨b, 0, none⟩)] w fun e w' => e = .returned (.string ⟨#[]⟩) ∧ (Lib.IsBuilderF 66 5 B b [] w' ∧ Below B w w' ∧ Lib.OthersKept 5 (some b) w w') := Any.Builder_String_empty_k Tryz.lays169 Tryz.Builder_Extra_169 B b w h hBw
open Go.RowKit in
/-- (*strings.Builder).String: "String returns the accumulated string.": WHATEVER THE BUILDER HOLDS; THE FORM '_k': OVER 'Lib.IsBuilderF' (a builder that 'String()' may have read), AND WITH THE FRAME THAT REACHES ABOVE THE BUILDER: 'Lib.OthersKept': every block that is not b and is no row of uint8's stands as it stood: the iterator of a range among them. (LAID: no walk: one application.) -/
theorem Tryz.Builder_String_any_k (B b : Nat) (l : List UInt8) (w : World) (h : Lib.IsBuilderF 66 5 B b (Lib.byteCells l) w) (hBw : B ≤ w.heap.size) :
    Calls Tryz.prog 55 #[.pointer (some ⟨b, 0, none⟩)] w fun e w' => e = .returned (.string ⟨l.toArray⟩) ∧ (Lib.IsBuilderF 66 5 B b (Lib.byteCells l) w' ∧ Below B w w' ∧ Lib.OthersKept 5 (some b) w w') := Any.Builder_String_any_k Tryz.lays169 Tryz.Builder_Extra_169 B b l w h hBw
def Tryz.lays129_ren : Go.Shelf.Ren := ⟨fun | 129 => 98 | n => n, fun | 53 => 99 | 3 => 3 | 4 => 4 | 46 => 50 | 5 => 5 | 9 => 9 | n => n, fun | n => n⟩
theorem Tryz.lays129 : Go.Proofs.Lays.n129 Tryz.prog Tryz.lays129_ren := {
  mixed := by kernel_rfl
  f129 := Tryz.func98.trans (congrArg some (by kernel_rfl))
  t3 := Tryz.underlying3
  a3 := Tryz.isAgg3
  z3 := Tryz.sizeOf3
  v3 := Tryz.zeroValue3
  t4 := Tryz.underlying4
  a4 := Tryz.isAgg4
  z4 := Tryz.sizeOf4
  v4 := Tryz.zeroValue4
  t5 := Tryz.underlying5
  a5 := Tryz.isAgg5
  z5 := Tryz.sizeOf5
  v5 := Tryz.zeroValue5
  t9 := Tryz.underlying9
  a9 := Tryz.isAgg9
  z9 := Tryz.sizeOf9
  v9 := Tryz.zeroValue9
  t46 := Tryz.underlying50
  a46 := Tryz.isAgg50
  z46 := Tryz.sizeOf50
  v46 := Tryz.zeroValue50
  t53 := Tryz.underlying99
  a53 := Tryz.isAgg99
  z53 := Tryz.sizeOf99
  v53 := Tryz.zeroValue99 }
/-- bits.Len64: "Len64 returns the minimum number of bits required to represent x; the result is 0 for x == 0.": IT RETURNS 'Lib.bitLen x'; the world is as it was. ('h0', 'h1': x is a uint64.) (LAID: no walk: one application.) -/
theorem Tryz.bits_Len64 (x : Int) (w : World) (h0 : 0 ≤ x) (h1 : x ≤ 18446744073709551615) :
    Calls Tryz.prog 98 #[.int .u64 x] w fun e w' => e = .returned (.int .i64 (Lib.bitLen x.toNat)) ∧ w' = w := Any.bits_Len64 Tryz.lays129 x w h0 h1
def Tryz.lays317_ren : Go.Shelf.Ren := ⟨fun | 317 => 97 | n => n, fun | 3 => 3 | 46 => 50 | n => n, fun | n => n⟩
theorem Tryz.lays317 : Go.Proofs.Lays.n317 Tryz.prog Tryz.lays317_ren := {
  mixed := by kernel_rfl
  f317 := Tryz.func97.trans (congrArg some (by kernel_rfl))
  t3 := Tryz.underlying3
  a3 := Tryz.isAgg3
  z3 := Tryz.sizeOf3
  v3 := Tryz.zeroValue3
  t46 := Tryz.underlying50
  a46 := Tryz.isAgg50
  z46 := Tryz.sizeOf50
  v46 := Tryz.zeroValue50 }
open Go.Lib in
/-- internal/strconv.log10Pow2: "log10Pow2(x) returns ⌊log₁₀ 2**x⌋ = ⌊x * log₁₀ 2⌋.": '(x * 78913) >> 18', at an x up to 64 (a length in bits). The world is as it was. (LAID: no walk: one application.) -/
theorem Tryz.internal_strconv_log10Pow2 (x : Nat) (h : x ≤ 64) (w : World) :
    Calls Tryz.prog 97 #[.int .i64 x] w fun e w' => e = .returned (.int .i64 (Lib.l10 x)) ∧ w' = w := Any.internal_strconv_log10Pow2 Tryz.lays317 x h w
def Tryz.lays318_ren : Go.Shelf.Ren := ⟨fun | 318 => 99 | n => n, fun | 3 => 3 | 4 => 4 | n => n, fun | n => n⟩
theorem Tryz.lays318 : Go.Proofs.Lays.n318 Tryz.prog Tryz.lays318_ren := {
  mixed := by kernel_rfl
  f318 := Tryz.func99.trans (congrArg some (by kernel_rfl))
  t3 := Tryz.underlying3
  a3 := Tryz.isAgg3
  z3 := Tryz.sizeOf3
  v3 := Tryz.zeroValue3
  t4 := Tryz.underlying4
  a4 := Tryz.isAgg4
  z4 := Tryz.sizeOf4
  v4 := Tryz.zeroValue4 }
open Go.Lib in
/-- internal/strconv.bool2: "bool2 converts b to an integer: 1 for true, 0 for false." The world is as it was. (LAID: no walk: one application.) -/
theorem Tryz.internal_strconv_bool2_int (b : Bool) (w : World) :
    Calls Tryz.prog 99 #[.bool b] w fun e w' => e = .returned (.int .i64 (if b then 1 else 0)) ∧ w' = w := Any.internal_strconv_bool2_int Tryz.lays318 b w
def Tryz.lays283_ren : Go.Shelf.Ren := ⟨fun | 283 => 78 | n => n, fun | 3 => 3 | 9 => 9 | 4 => 4 | n => n, fun | n => n⟩
theorem Tryz.lays283 : Go.Proofs.Lays.n283 Tryz.prog Tryz.lays283_ren := {
  mixed := by kernel_rfl
  f283 := Tryz.func78.trans (congrArg some (by kernel_rfl))
  t3 := Tryz.underlying3
  a3 := Tryz.isAgg3
  z3 := Tryz.sizeOf3
  v3 := Tryz.zeroValue3
  t4 := Tryz.underlying4
  a4 := Tryz.isAgg4
  z4 := Tryz.sizeOf4
  v4 := Tryz.zeroValue4
  t9 := Tryz.underlying9
  a9 := Tryz.isAgg9
  z9 := Tryz.sizeOf9
  v9 := Tryz.zeroValue9 }
open Go.Lib in
/-- internal/strconv.small: "small returns the string for an i with 0 <= i < nSmalls.": i's decimal numeral. The world is as it was. (LAID: no walk: one application.) -/
theorem Tryz.internal_strconv_small (i : Nat) (h : i < 100) (w : World) :
    Calls Tryz.prog 78 #[.int .i64 i] w fun e w' => e = .returned (.string ⟨(Lib.decDigits i).toArray⟩) ∧ w' = w := Any.internal_strconv_small Tryz.lays283 i h w
def Tryz.laysM284_ren : Go.Shelf.Ren := ⟨fun | 284 => 79 | 129 => 98 | 317 => 97 | 318 => 99 | n => n, fun | 53 => 99 | 3 => 3 | 212 => 130 | 0 => 0 | 4 => 4 | 46 => 50 | 5 => 5 | 9 => 9 | n => n, fun | 17 => 5 | n => n⟩
theorem Tryz.laysM284 : Go.Proofs.LaysM.n284 Tryz.prog Tryz.laysM284_ren := {
  mixed := by kernel_rfl
  f129 := Tryz.func98.trans (congrArg some (by kernel_rfl))
  f284 := Tryz.func79.trans (congrArg some (by kernel_rfl))
  f317 := Tryz.func97.trans (congrArg some (by kernel_rfl))
  f318 := Tryz.func99.trans (congrArg some (by kernel_rfl))
  t0 := Tryz.underlying0
  a0 := Tryz.isAgg0
  z0 := Tryz.sizeOf0
  v0 := Tryz.zeroValue0
  t3 := Tryz.underlying3
  a3 := Tryz.isAgg3
  z3 := Tryz.sizeOf3
  v3 := Tryz.zeroValue3
  t4 := Tryz.underlying4
  a4 := Tryz.isAgg4
  z4 := Tryz.sizeOf4
  v4 := Tryz.zeroValue4
  t5 := Tryz.underlying5
  a5 := Tryz.isAgg5
  z5 := Tryz.sizeOf5
  v5 := Tryz.zeroValue5
  t9 := Tryz.underlying9
  a9 := Tryz.isAgg9
  z9 := Tryz.sizeOf9
  v9 := Tryz.zeroValue9
  t46 := Tryz.underlying50
  a46 := Tryz.isAgg50
  z46 := Tryz.sizeOf50
  v46 := Tryz.zeroValue50
  t53 := Tryz.underlying99
  a53 := Tryz.isAgg99
  z53 := Tryz.sizeOf99
  v53 := Tryz.zeroValue99
  t212 := Tryz.underlying130
  a212 := Tryz.isAgg130
  z212 := Tryz.sizeOf130
  v212 := Tryz.zeroValue130
  g17 := by kernel_rfl
  i0 := by kernel_rfl
  i3 := by kernel_rfl
  i4 := by kernel_rfl
  i5 := by kernel_rfl
  i9 := by kernel_rfl
  i46 := by kernel_rfl
  i53 := by kernel_rfl
  i212 := by kernel_rfl
  m17 := by kernel_rfl }
open Go.Lib in
/-- internal/strconv.numDigits, at a d that is not 0: THE NUMBER OF d's DECIMAL DIGITS. The world is as it was. (LAID: no walk: one application.) -/
theorem Tryz.internal_strconv_numDigits (u : Nat) (h1 : 1 ≤ u) (h2 : u < 18446744073709551616) (w : World) (htab : Lib.TabIs Tryz.prog w "internal/strconv.uint64pow10" .u64 Lib.pow10Tab) :
    Calls Tryz.prog 79 #[.int .u64 u] w fun e w' => e = .returned (.int .i64 (Lib.nDigits u)) ∧ w' = w := Any.internal_strconv_numDigits Tryz.laysM284 u h1 h2 w htab
def Tryz.lays285_ren : Go.Shelf.Ren := ⟨fun | 285 => 80 | n => n, fun | 37 => 25 | 53 => 99 | 3 => 3 | 4 => 4 | 51 => 95 | 9 => 9 | 5 => 5 | 0 => 0 | n => n, fun | n => n⟩
theorem Tryz.lays285 : Go.Proofs.Lays.n285 Tryz.prog Tryz.lays285_ren := {
  mixed := by kernel_rfl
  f285 := Tryz.func80.trans (congrArg some (by kernel_rfl))
  t0 := Tryz.underlying0
  a0 := Tryz.isAgg0
  z0 := Tryz.sizeOf0
  v0 := Tryz.zeroValue0
  t3 := Tryz.underlying3
  a3 := Tryz.isAgg3
  z3 := Tryz.sizeOf3
  v3 := Tryz.zeroValue3
  t4 := Tryz.underlying4
  a4 := Tryz.isAgg4
  z4 := Tryz.sizeOf4
  v4 := Tryz.zeroValue4
  t5 := Tryz.underlying5
  a5 := Tryz.isAgg5
  z5 := Tryz.sizeOf5
  v5 := Tryz.zeroValue5
  t9 := Tryz.underlying9
  a9 := Tryz.isAgg9
  z9 := Tryz.sizeOf9
  v9 := Tryz.zeroValue9
  t37 := Tryz.underlying25
  a37 := Tryz.isAgg25
  z37 := Tryz.sizeOf25
  v37 := Tryz.zeroValue25
  t51 := Tryz.underlying95
  a51 := Tryz.isAgg95
  z51 := Tryz.sizeOf95
  v51 := Tryz.zeroValue95
  t53 := Tryz.underlying99
  a53 := Tryz.isAgg99
  z53 := Tryz.sizeOf99
  v53 := Tryz.zeroValue99 }
open Go.RowKit Go.Sort Go.Lib in
/-- internal/strconv.formatBase10: "formatBase10 formats the decimal representation of u into a. The caller is responsible for ensuring that a is big enough to hold u. If a is too big, leading zeros will be filled in as needed.": THE ROW HOLDS u's DIGITS ('FmtInv .. 0 ..': every place t holds 'dg u (len - 1 - t)'); all else is as it was but for the count of draws. (LAID: no walk: one application.) -/
theorem Tryz.internal_strconv_formatBase10 (blk off cap : Nat) (u : Nat) (d : Array UInt8) (w : World) (hH : Holds (fun (b : UInt8) => Value.int .u8 (b.toNat : Int)) w blk off d) (hu : u < 10 ^ d.size) (hu64 : u < 18446744073709551616) (hsz : d.size < 4611686018427387904) :
    Calls Tryz.prog 80 #[.slice (some ⟨blk, off, none⟩) d.size cap, .int .u64 u] w fun e w' =>
      e = .returned (.tuple #[]) ∧ ∃ (n v' : Nat) (dk : Array UInt8), w' = (putRow (fun (b : UInt8) => Value.int .u8 (b.toNat : Int)) w blk off dk).drewN n ∧ FmtInv d.size u 0 v' dk := Any.internal_strconv_formatBase10 Tryz.lays285 blk off cap u d w hH hu hu64 hsz
def Tryz.laysM246_ren : Go.Shelf.Ren := ⟨fun | 246 => 63 | 283 => 78 | 284 => 79 | 285 => 80 | 286 => 81 | 129 => 98 | 317 => 97 | 318 => 99 | 319 => 100 | 320 => 101 | 337 => 106 | 338 => 107 | n => n, fun | 2 => 2 | 3 => 3 | 9 => 9 | 4 => 4 | 171 => 98 | 0 => 0 | 53 => 99 | 37 => 25 | 5 => 5 | 173 => 102 | 212 => 130 | 51 => 95 | 20 => 20 | 213 => 131 | 46 => 50 | 232 => 145 | 233 => 146 | n => n, fun | 17 => 5 | 18 => 7 | 19 => 8 | n => n⟩
theorem Tryz.laysM246 : Go.Proofs.LaysM.n246 Tryz.prog Tryz.laysM246_ren := {
  mixed := by kernel_rfl
  f129 := Tryz.func98.trans (congrArg some (by kernel_rfl))
  f246 := Tryz.func63.trans (congrArg some (by kernel_rfl))
  f283 := Tryz.func78.trans (congrArg some (by kernel_rfl))
  f284 := Tryz.func79.trans (congrArg some (by kernel_rfl))
  f285 := Tryz.func80.trans (congrArg some (by kernel_rfl))
  f286 := Tryz.func81.trans (congrArg some (by kernel_rfl))
  f317 := Tryz.func97.trans (congrArg some (by kernel_rfl))
  f318 := Tryz.func99.trans (congrArg some (by kernel_rfl))
  f319 := Tryz.func100.trans (congrArg some (by kernel_rfl))
  f320 := Tryz.func101.trans (congrArg some (by kernel_rfl))
  f337 := Tryz.func106.trans (congrArg some (by kernel_rfl))
  f338 := Tryz.func107.trans (congrArg some (by kernel_rfl))
  t0 := Tryz.underlying0
  a0 := Tryz.isAgg0
  z0 := Tryz.sizeOf0
  v0 := Tryz.zeroValue0
  t2 := Tryz.underlying2
  a2 := Tryz.isAgg2
  z2 := Tryz.sizeOf2
  v2 := Tryz.zeroValue2
  t3 := Tryz.underlying3
  a3 := Tryz.isAgg3
  z3 := Tryz.sizeOf3
  v3 := Tryz.zeroValue3
  t4 := Tryz.underlying4
  a4 := Tryz.isAgg4
  z4 := Tryz.sizeOf4
  v4 := Tryz.zeroValue4
  t5 := Tryz.underlying5
  a5 := Tryz.isAgg5
  z5 := Tryz.sizeOf5
  v5 := Tryz.zeroValue5
  t9 := Tryz.underlying9
  a9 := Tryz.isAgg9
  z9 := Tryz.sizeOf9
  v9 := Tryz.zeroValue9
  t20 := Tryz.underlying20
  a20 := Tryz.isAgg20
  z20 := Tryz.sizeOf20
  v20 := Tryz.zeroValue20
  t37 := Tryz.underlying25
  a37 := Tryz.isAgg25
  z37 := Tryz.sizeOf25
  v37 := Tryz.zeroValue25
  t46 := Tryz.underlying50
  a46 := Tryz.isAgg50
  z46 := Tryz.sizeOf50
  v46 := Tryz.zeroValue50
  t51 := Tryz.underlying95
  a51 := Tryz.isAgg95
  z51 := Tryz.sizeOf95
  v51 := Tryz.zeroValue95
  t53 := Tryz.underlying99
  a53 := Tryz.isAgg99
  z53 := Tryz.sizeOf99
  v53 := Tryz.zeroValue99
  t171 := Tryz.underlying98
  a171 := Tryz.isAgg98
  z171 := Tryz.sizeOf98
  v171 := Tryz.zeroValue98
  t173 := Tryz.underlying102
  a173 := Tryz.isAgg102
  z173 := Tryz.sizeOf102
  v173 := Tryz.zeroValue102
  t212 := Tryz.underlying130
  a212 := Tryz.isAgg130
  z212 := Tryz.sizeOf130
  v212 := Tryz.zeroValue130
  t213 := Tryz.underlying131
  a213 := Tryz.isAgg131
  z213 := Tryz.sizeOf131
  t232 := Tryz.underlying145
  a232 := Tryz.isAgg145
  z232 := Tryz.sizeOf145
  v232 := Tryz.zeroValue145
  t233 := Tryz.underlying146
  a233 := Tryz.isAgg146
  z233 := Tryz.sizeOf146
  v233 := Tryz.zeroValue146
  g17 := by kernel_rfl
  g18 := by kernel_rfl
  g19 := by kernel_rfl
  i0 := by kernel_rfl
  i2 := by kernel_rfl
  i3 := by kernel_rfl
  i4 := by kernel_rfl
  i5 := by kernel_rfl
  i9 := by kernel_rfl
  i20 := by kernel_rfl
  i37 := by kernel_rfl
  i46 := by kernel_rfl
  i51 := by kernel_rfl
  i53 := by kernel_rfl
  i171 := by kernel_rfl
  i173 := by kernel_rfl
  i212 := by kernel_rfl
  i232 := by kernel_rfl
  i233 := by kernel_rfl
  m17 := by kernel_rfl
  m18 := by kernel_rfl
  m19 := by kernel_rfl }
open Go.RowKit Go.Sort Go.Lib in
/-- internal/strconv.FormatInt: "FormatInt returns the string representation of i in the given base": AT BASE 10: i's decimal numeral, for every int64. The world behind the call: the world before it, new blocks behind the heap, draws. (LAID: no walk: one application.) -/
theorem Tryz.internal_strconv_FormatInt_10 (n : Int) (h0 : -9223372036854775808 ≤ n) (h1 : n ≤ 9223372036854775807) (w : World) (htab : Lib.TabIs Tryz.prog w "internal/strconv.uint64pow10" .u64 Lib.pow10Tab) :
    Calls Tryz.prog 63 #[.int .i64 n, .int .i64 10] w fun e w' => e = .returned (.string ⟨(Lib.itoa n).toArray⟩) ∧ ∃ k os, w' = grow (w.drewN k) os := Any.internal_strconv_FormatInt_10 Tryz.laysM246 n h0 h1 w htab
def Tryz.lays246_ren : Go.Shelf.Ren := ⟨fun | 246 => 63 | 283 => 78 | 284 => 79 | 285 => 80 | 286 => 81 | 129 => 98 | 317 => 97 | 318 => 99 | 319 => 100 | 320 => 101 | 337 => 106 | 338 => 107 | n => n, fun | 2 => 2 | 3 => 3 | 9 => 9 | 4 => 4 | 171 => 98 | 0 => 0 | 53 => 99 | 37 => 25 | 5 => 5 | 173 => 102 | 212 => 130 | 51 => 95 | 20 => 20 | 213 => 131 | 46 => 50 | 232 => 145 | 233 => 146 | n => n, fun | 17 => 5 | 18 => 7 | 19 => 8 | n => n⟩
theorem Tryz.lays246 : Go.Proofs.Lays.n246 Tryz.prog Tryz.lays246_ren := {
  mixed := by kernel_rfl
  f129 := Tryz.func98.trans (congrArg some (by kernel_rfl))
  f246 := Tryz.func63.trans (congrArg some (by kernel_rfl))
  f283 := Tryz.func78.trans (congrArg some (by kernel_rfl))
  f284 := Tryz.func79.trans (congrArg some (by kernel_rfl))
  f285 := Tryz.func80.trans (congrArg some (by kernel_rfl))
  f286 := Tryz.func81.trans (congrArg some (by kernel_rfl))
  f317 := Tryz.func97.trans (congrArg some (by kernel_rfl))
  f318 := Tryz.func99.trans (congrArg some (by kernel_rfl))
  f319 := Tryz.func100.trans (congrArg some (by kernel_rfl))
  f320 := Tryz.func101.trans (congrArg some (by kernel_rfl))
  f337 := Tryz.func106.trans (congrArg some (by kernel_rfl))
  f338 := Tryz.func107.trans (congrArg some (by kernel_rfl))
  t0 := Tryz.underlying0
  a0 := Tryz.isAgg0
  z0 := Tryz.sizeOf0
  v0 := Tryz.zeroValue0
  t2 := Tryz.underlying2
  a2 := Tryz.isAgg2
  z2 := Tryz.sizeOf2
  v2 := Tryz.zeroValue2
  t3 := Tryz.underlying3
  a3 := Tryz.isAgg3
  z3 := Tryz.sizeOf3
  v3 := Tryz.zeroValue3
  t4 := Tryz.underlying4
  a4 := Tryz.isAgg4
  z4 := Tryz.sizeOf4
  v4 := Tryz.zeroValue4
  t5 := Tryz.underlying5
  a5 := Tryz.isAgg5
  z5 := Tryz.sizeOf5
  v5 := Tryz.zeroValue5
  t9 := Tryz.underlying9
  a9 := Tryz.isAgg9
  z9 := Tryz.sizeOf9
  v9 := Tryz.zeroValue9
  t20 := Tryz.underlying20
  a20 := Tryz.isAgg20
  z20 := Tryz.sizeOf20
  v20 := Tryz.zeroValue20
  t37 := Tryz.underlying25
  a37 := Tryz.isAgg25
  z37 := Tryz.sizeOf25
  v37 := Tryz.zeroValue25
  t46 := Tryz.underlying50
  a46 := Tryz.isAgg50
  z46 := Tryz.sizeOf50
  v46 := Tryz.zeroValue50
  t51 := Tryz.underlying95
  a51 := Tryz.isAgg95
  z51 := Tryz.sizeOf95
  v51 := Tryz.zeroValue95
  t53 := Tryz.underlying99
  a53 := Tryz.isAgg99
  z53 := Tryz.sizeOf99
  v53 := Tryz.zeroValue99
  t171 := Tryz.underlying98
  a171 := Tryz.isAgg98
  z171 := Tryz.sizeOf98
  v171 := Tryz.zeroValue98
  t173 := Tryz.underlying102
  a173 := Tryz.isAgg102
  z173 := Tryz.sizeOf102
  v173 := Tryz.zeroValue102
  t212 := Tryz.underlying130
  a212 := Tryz.isAgg130
  z212 := Tryz.sizeOf130
  v212 := Tryz.zeroValue130
  t213 := Tryz.underlying131
  a213 := Tryz.isAgg131
  z213 := Tryz.sizeOf131
  t232 := Tryz.underlying145
  a232 := Tryz.isAgg145
  z232 := Tryz.sizeOf145
  v232 := Tryz.zeroValue145
  t233 := Tryz.underlying146
  a233 := Tryz.isAgg146
  z233 := Tryz.sizeOf146
  v233 := Tryz.zeroValue146
  g17 := by kernel_rfl
  g18 := by kernel_rfl
  g19 := by kernel_rfl }
open Go.RowKit Go.Sort Go.Lib in
/-- THE ROAD WITHOUT THE TABLE: 0 <= i < 100: two constants are read, nothing is laid: no premise on the world, and the world is as it was. (LAID: no walk: one application.) -/
theorem Tryz.internal_strconv_FormatInt_10_small (i : Nat) (hi : i < 100) (w : World) :
    Calls Tryz.prog 63 #[.int .i64 i, .int .i64 10] w fun e w' => e = .returned (.string ⟨(Lib.decDigits i).toArray⟩) ∧ w' = w := Any.internal_strconv_FormatInt_10_small Tryz.lays246 i hi w
def Tryz.laysM243_ren : Go.Shelf.Ren := ⟨fun | 243 => 49 | 246 => 63 | 283 => 78 | 284 => 79 | 285 => 80 | 286 => 81 | 129 => 98 | 317 => 97 | 318 => 99 | 319 => 100 | 320 => 101 | 337 => 106 | 338 => 107 | n => n, fun | 3 => 3 | 9 => 9 | 2 => 2 | 4 => 4 | 171 => 98 | 0 => 0 | 53 => 99 | 37 => 25 | 5 => 5 | 173 => 102 | 212 => 130 | 51 => 95 | 20 => 20 | 213 => 131 | 46 => 50 | 232 => 145 | 233 => 146 | n => n, fun | 17 => 5 | 18 => 7 | 19 => 8 | n => n⟩
theorem Tryz.laysM243 : Go.Proofs.LaysM.n243 Tryz.prog Tryz.laysM243_ren := {
  mixed := by kernel_rfl
  f129 := Tryz.func98.trans (congrArg some (by kernel_rfl))
  f243 := Tryz.func49.trans (congrArg some (by kernel_rfl))
  f246 := Tryz.func63.trans (congrArg some (by kernel_rfl))
  f283 := Tryz.func78.trans (congrArg some (by kernel_rfl))
  f284 := Tryz.func79.trans (congrArg some (by kernel_rfl))
  f285 := Tryz.func80.trans (congrArg some (by kernel_rfl))
  f286 := Tryz.func81.trans (congrArg some (by kernel_rfl))
  f317 := Tryz.func97.trans (congrArg some (by kernel_rfl))
  f318 := Tryz.func99.trans (congrArg some (by kernel_rfl))
  f319 := Tryz.func100.trans (congrArg some (by kernel_rfl))
  f320 := Tryz.func101.trans (congrArg some (by kernel_rfl))
  f337 := Tryz.func106.trans (congrArg some (by kernel_rfl))
  f338 := Tryz.func107.trans (congrArg some (by kernel_rfl))
  t0 := Tryz.underlying0
  a0 := Tryz.isAgg0
  z0 := Tryz.sizeOf0
  v0 := Tryz.zeroValue0
  t2 := Tryz.underlying2
  a2 := Tryz.isAgg2
  z2 := Tryz.sizeOf2
  v2 := Tryz.zeroValue2
  t3 := Tryz.underlying3
  a3 := Tryz.isAgg3
  z3 := Tryz.sizeOf3
  v3 := Tryz.zeroValue3
  t4 := Tryz.underlying4
  a4 := Tryz.isAgg4
  z4 := Tryz.sizeOf4
  v4 := Tryz.zeroValue4
  t5 := Tryz.underlying5
  a5 := Tryz.isAgg5
  z5 := Tryz.sizeOf5
  v5 := Tryz.zeroValue5
  t9 := Tryz.underlying9
  a9 := Tryz.isAgg9
  z9 := Tryz.sizeOf9
  v9 := Tryz.zeroValue9
  t20 := Tryz.underlying20
  a20 := Tryz.isAgg20
  z20 := Tryz.sizeOf20
  v20 := Tryz.zeroValue20
  t37 := Tryz.underlying25
  a37 := Tryz.isAgg25
  z37 := Tryz.sizeOf25
  v37 := Tryz.zeroValue25
  t46 := Tryz.underlying50
  a46 := Tryz.isAgg50
  z46 := Tryz.sizeOf50
  v46 := Tryz.zeroValue50
  t51 := Tryz.underlying95
  a51 := Tryz.isAgg95
  z51 := Tryz.sizeOf95
  v51 := Tryz.zeroValue95
  t53 := Tryz.underlying99
  a53 := Tryz.isAgg99
  z53 := Tryz.sizeOf99
  v53 := Tryz.zeroValue99
  t171 := Tryz.underlying98
  a171 := Tryz.isAgg98
  z171 := Tryz.sizeOf98
  v171 := Tryz.zeroValue98
  t173 := Tryz.underlying102
  a173 := Tryz.isAgg102
  z173 := Tryz.sizeOf102
  v173 := Tryz.zeroValue102
  t212 := Tryz.underlying130
  a212 := Tryz.isAgg130
  z212 := Tryz.sizeOf130
  v212 := Tryz.zeroValue130
  t213 := Tryz.underlying131
  a213 := Tryz.isAgg131
  z213 := Tryz.sizeOf131
  t232 := Tryz.underlying145
  a232 := Tryz.isAgg145
  z232 := Tryz.sizeOf145
  v232 := Tryz.zeroValue145
  t233 := Tryz.underlying146
  a233 := Tryz.isAgg146
  z233 := Tryz.sizeOf146
  v233 := Tryz.zeroValue146
  g17 := by kernel_rfl
  g18 := by kernel_rfl
  g19 := by kernel_rfl
  i0 := by kernel_rfl
  i2 := by kernel_rfl
  i3 := by kernel_rfl
  i4 := by kernel_rfl
  i5 := by kernel_rfl
  i9 := by kernel_rfl
  i20 := by kernel_rfl
  i37 := by kernel_rfl
  i46 := by kernel_rfl
  i51 := by kernel_rfl
  i53 := by kernel_rfl
  i171 := by kernel_rfl
  i173 := by kernel_rfl
  i212 := by kernel_rfl
  i232 := by kernel_rfl
  i233 := by kernel_rfl
  m17 := by kernel_rfl
  m18 := by kernel_rfl
  m19 := by kernel_rfl }
open Go.RowKit Go.Sort Go.Lib in
/-- internal/strconv.Itoa: "Itoa is equivalent to FormatInt(int64(i), 10).": i's decimal numeral, for every int. (LAID: no walk: one application.) -/
theorem Tryz.internal_strconv_Itoa (n : Int) (h0 : -9223372036854775808 ≤ n) (h1 : n ≤ 9223372036854775807) (w : World) (htab : Lib.TabIs Tryz.prog w "internal/strconv.uint64pow10" .u64 Lib.pow10Tab) :
    Calls Tryz.prog 49 #[.int .i64 n] w fun e w' => e = .returned (.string ⟨(Lib.itoa n).toArray⟩) ∧ ∃ k os, w' = grow (w.drewN k) os := Any.internal_strconv_Itoa Tryz.laysM243 n h0 h1 w htab
def Tryz.lays243_ren : Go.Shelf.Ren := ⟨fun | 243 => 49 | 246 => 63 | 283 => 78 | 284 => 79 | 285 => 80 | 286 => 81 | 129 => 98 | 317 => 97 | 318 => 99 | 319 => 100 | 320 => 101 | 337 => 106 | 338 => 107 | n => n, fun | 3 => 3 | 9 => 9 | 2 => 2 | 4 => 4 | 171 => 98 | 0 => 0 | 53 => 99 | 37 => 25 | 5 => 5 | 173 => 102 | 212 => 130 | 51 => 95 | 20 => 20 | 213 => 131 | 46 => 50 | 232 => 145 | 233 => 146 | n => n, fun | 17 => 5 | 18 => 7 | 19 => 8 | n => n⟩
theorem Tryz.lays243 : Go.Proofs.Lays.n243 Tryz.prog Tryz.lays243_ren := {
  mixed := by kernel_rfl
  f129 := Tryz.func98.trans (congrArg some (by kernel_rfl))
  f243 := Tryz.func49.trans (congrArg some (by kernel_rfl))
  f246 := Tryz.func63.trans (congrArg some (by kernel_rfl))
  f283 := Tryz.func78.trans (congrArg some (by kernel_rfl))
  f284 := Tryz.func79.trans (congrArg some (by kernel_rfl))
  f285 := Tryz.func80.trans (congrArg some (by kernel_rfl))
  f286 := Tryz.func81.trans (congrArg some (by kernel_rfl))
  f317 := Tryz.func97.trans (congrArg some (by kernel_rfl))
  f318 := Tryz.func99.trans (congrArg some (by kernel_rfl))
  f319 := Tryz.func100.trans (congrArg some (by kernel_rfl))
  f320 := Tryz.func101.trans (congrArg some (by kernel_rfl))
  f337 := Tryz.func106.trans (congrArg some (by kernel_rfl))
  f338 := Tryz.func107.trans (congrArg some (by kernel_rfl))
  t0 := Tryz.underlying0
  a0 := Tryz.isAgg0
  z0 := Tryz.sizeOf0
  v0 := Tryz.zeroValue0
  t2 := Tryz.underlying2
  a2 := Tryz.isAgg2
  z2 := Tryz.sizeOf2
  v2 := Tryz.zeroValue2
  t3 := Tryz.underlying3
  a3 := Tryz.isAgg3
  z3 := Tryz.sizeOf3
  v3 := Tryz.zeroValue3
  t4 := Tryz.underlying4
  a4 := Tryz.isAgg4
  z4 := Tryz.sizeOf4
  v4 := Tryz.zeroValue4
  t5 := Tryz.underlying5
  a5 := Tryz.isAgg5
  z5 := Tryz.sizeOf5
  v5 := Tryz.zeroValue5
  t9 := Tryz.underlying9
  a9 := Tryz.isAgg9
  z9 := Tryz.sizeOf9
  v9 := Tryz.zeroValue9
  t20 := Tryz.underlying20
  a20 := Tryz.isAgg20
  z20 := Tryz.sizeOf20
  v20 := Tryz.zeroValue20
  t37 := Tryz.underlying25
  a37 := Tryz.isAgg25
  z37 := Tryz.sizeOf25
  v37 := Tryz.zeroValue25
  t46 := Tryz.underlying50
  a46 := Tryz.isAgg50
  z46 := Tryz.sizeOf50
  v46 := Tryz.zeroValue50
  t51 := Tryz.underlying95
  a51 := Tryz.isAgg95
  z51 := Tryz.sizeOf95
  v51 := Tryz.zeroValue95
  t53 := Tryz.underlying99
  a53 := Tryz.isAgg99
  z53 := Tryz.sizeOf99
  v53 := Tryz.zeroValue99
  t171 := Tryz.underlying98
  a171 := Tryz.isAgg98
  z171 := Tryz.sizeOf98
  v171 := Tryz.zeroValue98
  t173 := Tryz.underlying102
  a173 := Tryz.isAgg102
  z173 := Tryz.sizeOf102
  v173 := Tryz.zeroValue102
  t212 := Tryz.underlying130
  a212 := Tryz.isAgg130
  z212 := Tryz.sizeOf130
  v212 := Tryz.zeroValue130
  t213 := Tryz.underlying131
  a213 := Tryz.isAgg131
  z213 := Tryz.sizeOf131
  t232 := Tryz.underlying145
  a232 := Tryz.isAgg145
  z232 := Tryz.sizeOf145
  v232 := Tryz.zeroValue145
  t233 := Tryz.underlying146
  a233 := Tryz.isAgg146
  z233 := Tryz.sizeOf146
  v233 := Tryz.zeroValue146
  g17 := by kernel_rfl
  g18 := by kernel_rfl
  g19 := by kernel_rfl }
open Go.RowKit Go.Sort Go.Lib in
/-- THE ROAD WITHOUT THE TABLE: 0 <= i < 100. (LAID: no walk: one application.) -/
theorem Tryz.internal_strconv_Itoa_small (i : Nat) (hi : i < 100) (w : World) :
    Calls Tryz.prog 49 #[.int .i64 i] w fun e w' => e = .returned (.string ⟨(Lib.decDigits i).toArray⟩) ∧ w' = w := Any.internal_strconv_Itoa_small Tryz.lays243 i hi w
def Tryz.laysM171_ren : Go.Shelf.Ren := ⟨fun | 171 => 33 | 243 => 49 | 246 => 63 | 283 => 78 | 284 => 79 | 285 => 80 | 286 => 81 | 129 => 98 | 317 => 97 | 318 => 99 | 319 => 100 | 320 => 101 | 337 => 106 | 338 => 107 | n => n, fun | 3 => 3 | 9 => 9 | 2 => 2 | 4 => 4 | 171 => 98 | 0 => 0 | 53 => 99 | 37 => 25 | 5 => 5 | 173 => 102 | 212 => 130 | 51 => 95 | 20 => 20 | 213 => 131 | 46 => 50 | 232 => 145 | 233 => 146 | n => n, fun | 17 => 5 | 18 => 7 | 19 => 8 | n => n⟩
theorem Tryz.laysM171 : Go.Proofs.LaysM.n171 Tryz.prog Tryz.laysM171_ren := {
  mixed := by kernel_rfl
  f129 := Tryz.func98.trans (congrArg some (by kernel_rfl))
  f171 := Tryz.func33.trans (congrArg some (by kernel_rfl))
  f243 := Tryz.func49.trans (congrArg some (by kernel_rfl))
  f246 := Tryz.func63.trans (congrArg some (by kernel_rfl))
  f283 := Tryz.func78.trans (congrArg some (by kernel_rfl))
  f284 := Tryz.func79.trans (congrArg some (by kernel_rfl))
  f285 := Tryz.func80.trans (congrArg some (by kernel_rfl))
  f286 := Tryz.func81.trans (congrArg some (by kernel_rfl))
  f317 := Tryz.func97.trans (congrArg some (by kernel_rfl))
  f318 := Tryz.func99.trans (congrArg some (by kernel_rfl))
  f319 := Tryz.func100.trans (congrArg some (by kernel_rfl))
  f320 := Tryz.func101.trans (congrArg some (by kernel_rfl))
  f337 := Tryz.func106.trans (congrArg some (by kernel_rfl))
  f338 := Tryz.func107.trans (congrArg some (by kernel_rfl))
  t0 := Tryz.underlying0
  a0 := Tryz.isAgg0
  z0 := Tryz.sizeOf0
  v0 := Tryz.zeroValue0
  t2 := Tryz.underlying2
  a2 := Tryz.isAgg2
  z2 := Tryz.sizeOf2
  v2 := Tryz.zeroValue2
  t3 := Tryz.underlying3
  a3 := Tryz.isAgg3
  z3 := Tryz.sizeOf3
  v3 := Tryz.zeroValue3
  t4 := Tryz.underlying4
  a4 := Tryz.isAgg4
  z4 := Tryz.sizeOf4
  v4 := Tryz.zeroValue4
  t5 := Tryz.underlying5
  a5 := Tryz.isAgg5
  z5 := Tryz.sizeOf5
  v5 := Tryz.zeroValue5
  t9 := Tryz.underlying9
  a9 := Tryz.isAgg9
  z9 := Tryz.sizeOf9
  v9 := Tryz.zeroValue9
  t20 := Tryz.underlying20
  a20 := Tryz.isAgg20
  z20 := Tryz.sizeOf20
  v20 := Tryz.zeroValue20
  t37 := Tryz.underlying25
  a37 := Tryz.isAgg25
  z37 := Tryz.sizeOf25
  v37 := Tryz.zeroValue25
  t46 := Tryz.underlying50
  a46 := Tryz.isAgg50
  z46 := Tryz.sizeOf50
  v46 := Tryz.zeroValue50
  t51 := Tryz.underlying95
  a51 := Tryz.isAgg95
  z51 := Tryz.sizeOf95
  v51 := Tryz.zeroValue95
  t53 := Tryz.underlying99
  a53 := Tryz.isAgg99
  z53 := Tryz.sizeOf99
  v53 := Tryz.zeroValue99
  t171 := Tryz.underlying98
  a171 := Tryz.isAgg98
  z171 := Tryz.sizeOf98
  v171 := Tryz.zeroValue98
  t173 := Tryz.underlying102
  a173 := Tryz.isAgg102
  z173 := Tryz.sizeOf102
  v173 := Tryz.zeroValue102
  t212 := Tryz.underlying130
  a212 := Tryz.isAgg130
  z212 := Tryz.sizeOf130
  v212 := Tryz.zeroValue130
  t213 := Tryz.underlying131
  a213 := Tryz.isAgg131
  z213 := Tryz.sizeOf131
  t232 := Tryz.underlying145
  a232 := Tryz.isAgg145
  z232 := Tryz.sizeOf145
  v232 := Tryz.zeroValue145
  t233 := Tryz.underlying146
  a233 := Tryz.isAgg146
  z233 := Tryz.sizeOf146
  v233 := Tryz.zeroValue146
  g17 := by kernel_rfl
  g18 := by kernel_rfl
  g19 := by kernel_rfl
  i0 := by kernel_rfl
  i2 := by kernel_rfl
  i3 := by kernel_rfl
  i4 := by kernel_rfl
  i5 := by kernel_rfl
  i9 := by kernel_rfl
  i20 := by kernel_rfl
  i37 := by kernel_rfl
  i46 := by kernel_rfl
  i51 := by kernel_rfl
  i53 := by kernel_rfl
  i171 := by kernel_rfl
  i173 := by kernel_rfl
  i212 := by kernel_rfl
  i232 := by kernel_rfl
  i233 := by kernel_rfl
  m17 := by kernel_rfl
  m18 := by kernel_rfl
  m19 := by kernel_rfl }
open Go.RowKit Go.Sort Go.Lib in
/-- strconv.Itoa: "Itoa is equivalent to FormatInt(int64(i), 10).": i's DECIMAL NUMERAL ('Lib.itoa': a '-' where i is negative, then the digits), FOR EVERY int. The world behind the call: the world before it, new blocks behind the heap (the library's 'var a [24]byte'), draws. (LAID: no walk: one application.) -/
theorem Tryz.strconv_Itoa (n : Int) (h0 : -9223372036854775808 ≤ n) (h1 : n ≤ 9223372036854775807) (w : World) (htab : Lib.TabIs Tryz.prog w "internal/strconv.uint64pow10" .u64 Lib.pow10Tab) :
    Calls Tryz.prog 33 #[.int .i64 n] w fun e w' => e = .returned (.string ⟨(Lib.itoa n).toArray⟩) ∧ ∃ k os, w' = grow (w.drewN k) os := Any.strconv_Itoa Tryz.laysM171 n h0 h1 w htab
def Tryz.lays171_ren : Go.Shelf.Ren := ⟨fun | 171 => 33 | 243 => 49 | 246 => 63 | 283 => 78 | 284 => 79 | 285 => 80 | 286 => 81 | 129 => 98 | 317 => 97 | 318 => 99 | 319 => 100 | 320 => 101 | 337 => 106 | 338 => 107 | n => n, fun | 3 => 3 | 9 => 9 | 2 => 2 | 4 => 4 | 171 => 98 | 0 => 0 | 53 => 99 | 37 => 25 | 5 => 5 | 173 => 102 | 212 => 130 | 51 => 95 | 20 => 20 | 213 => 131 | 46 => 50 | 232 => 145 | 233 => 146 | n => n, fun | 17 => 5 | 18 => 7 | 19 => 8 | n => n⟩
theorem Tryz.lays171 : Go.Proofs.Lays.n171 Tryz.prog Tryz.lays171_ren := {
  mixed := by kernel_rfl
  f129 := Tryz.func98.trans (congrArg some (by kernel_rfl))
  f171 := Tryz.func33.trans (congrArg some (by kernel_rfl))
  f243 := Tryz.func49.trans (congrArg some (by kernel_rfl))
  f246 := Tryz.func63.trans (congrArg some (by kernel_rfl))
  f283 := Tryz.func78.trans (congrArg some (by kernel_rfl))
  f284 := Tryz.func79.trans (congrArg some (by kernel_rfl))
  f285 := Tryz.func80.trans (congrArg some (by kernel_rfl))
  f286 := Tryz.func81.trans (congrArg some (by kernel_rfl))
  f317 := Tryz.func97.trans (congrArg some (by kernel_rfl))
  f318 := Tryz.func99.trans (congrArg some (by kernel_rfl))
  f319 := Tryz.func100.trans (congrArg some (by kernel_rfl))
  f320 := Tryz.func101.trans (congrArg some (by kernel_rfl))
  f337 := Tryz.func106.trans (congrArg some (by kernel_rfl))
  f338 := Tryz.func107.trans (congrArg some (by kernel_rfl))
  t0 := Tryz.underlying0
  a0 := Tryz.isAgg0
  z0 := Tryz.sizeOf0
  v0 := Tryz.zeroValue0
  t2 := Tryz.underlying2
  a2 := Tryz.isAgg2
  z2 := Tryz.sizeOf2
  v2 := Tryz.zeroValue2
  t3 := Tryz.underlying3
  a3 := Tryz.isAgg3
  z3 := Tryz.sizeOf3
  v3 := Tryz.zeroValue3
  t4 := Tryz.underlying4
  a4 := Tryz.isAgg4
  z4 := Tryz.sizeOf4
  v4 := Tryz.zeroValue4
  t5 := Tryz.underlying5
  a5 := Tryz.isAgg5
  z5 := Tryz.sizeOf5
  v5 := Tryz.zeroValue5
  t9 := Tryz.underlying9
  a9 := Tryz.isAgg9
  z9 := Tryz.sizeOf9
  v9 := Tryz.zeroValue9
  t20 := Tryz.underlying20
  a20 := Tryz.isAgg20
  z20 := Tryz.sizeOf20
  v20 := Tryz.zeroValue20
  t37 := Tryz.underlying25
  a37 := Tryz.isAgg25
  z37 := Tryz.sizeOf25
  v37 := Tryz.zeroValue25
  t46 := Tryz.underlying50
  a46 := Tryz.isAgg50
  z46 := Tryz.sizeOf50
  v46 := Tryz.zeroValue50
  t51 := Tryz.underlying95
  a51 := Tryz.isAgg95
  z51 := Tryz.sizeOf95
  v51 := Tryz.zeroValue95
  t53 := Tryz.underlying99
  a53 := Tryz.isAgg99
  z53 := Tryz.sizeOf99
  v53 := Tryz.zeroValue99
  t171 := Tryz.underlying98
  a171 := Tryz.isAgg98
  z171 := Tryz.sizeOf98
  v171 := Tryz.zeroValue98
  t173 := Tryz.underlying102
  a173 := Tryz.isAgg102
  z173 := Tryz.sizeOf102
  v173 := Tryz.zeroValue102
  t212 := Tryz.underlying130
  a212 := Tryz.isAgg130
  z212 := Tryz.sizeOf130
  v212 := Tryz.zeroValue130
  t213 := Tryz.underlying131
  a213 := Tryz.isAgg131
  z213 := Tryz.sizeOf131
  t232 := Tryz.underlying145
  a232 := Tryz.isAgg145
  z232 := Tryz.sizeOf145
  v232 := Tryz.zeroValue145
  t233 := Tryz.underlying146
  a233 := Tryz.isAgg146
  z233 := Tryz.sizeOf146
  v233 := Tryz.zeroValue146
  g17 := by kernel_rfl
  g18 := by kernel_rfl
  g19 := by kernel_rfl }
open Go.RowKit Go.Sort Go.Lib in
/-- THE ROAD WITHOUT THE TABLE: 0 <= i < 100: NO PREMISE ON THE WORLD, AND THE WORLD IS AS IT WAS: a row that keeps its argument in that range need list no table ('laid = []'). (LAID: no walk: one application.) -/
theorem Tryz.strconv_Itoa_small (i : Nat) (hi : i < 100) (w : World) :
    Calls Tryz.prog 33 #[.int .i64 i] w fun e w' => e = .returned (.string ⟨(Lib.decDigits i).toArray⟩) ∧ w' = w := Any.strconv_Itoa_small Tryz.lays171 i hi w
def Tryz.lays217_ren : Go.Shelf.Ren := ⟨fun | 217 => 82 | 266 => 102 | n => n, fun | 9 => 9 | 5 => 5 | 3 => 3 | n => n, fun | n => n⟩
theorem Tryz.lays217 : Go.Proofs.Lays.n217 Tryz.prog Tryz.lays217_ren := {
  mixed := by kernel_rfl
  f217 := Tryz.func82.trans (congrArg some (by kernel_rfl))
  f266 := Tryz.func102.trans (congrArg some (by kernel_rfl))
  t3 := Tryz.underlying3
  a3 := Tryz.isAgg3
  z3 := Tryz.sizeOf3
  v3 := Tryz.zeroValue3
  t5 := Tryz.underlying5
  a5 := Tryz.isAgg5
  z5 := Tryz.sizeOf5
  v5 := Tryz.zeroValue5
  t9 := Tryz.underlying9
  a9 := Tryz.isAgg9
  z9 := Tryz.sizeOf9
  v9 := Tryz.zeroValue9 }
open Go.RowKit Go.Lib in
/-- internal/stringslite.IndexByte (what strings.IndexByte calls): IT RETURNS 'Lib.indexByte s c'; the world is as it was. (LAID: no walk: one application.) -/
theorem Tryz.stringslite_IndexByte (s : ByteArray) (c : Int) (w : World) :
    Calls Tryz.prog 82 #[.string s, .int .u8 c] w fun e w' => e = .returned (.int .i64 (Lib.indexByte s.data.toList c.toNat.toUInt8)) ∧ w' = w := Any.stringslite_IndexByte Tryz.lays217 s c w
def Tryz.lays224_ren : Go.Shelf.Ren := ⟨fun | 224 => 84 | n => n, fun | 3 => 3 | n => n, fun | n => n⟩
theorem Tryz.lays224 : Go.Proofs.Lays.n224 Tryz.prog Tryz.lays224_ren := {
  mixed := by kernel_rfl
  f224 := Tryz.func84.trans (congrArg some (by kernel_rfl))
  t3 := Tryz.underlying3
  a3 := Tryz.isAgg3
  z3 := Tryz.sizeOf3
  v3 := Tryz.zeroValue3 }
open Go.RowKit Go.Lib in
/-- internal/bytealg.Cutover: "Cutover reports the number of failures of IndexByte we should tolerate before switching over to Index. n is the number of bytes processed so far.": on amd64: (n + 16) / 8. (LAID: no walk: one application.) -/
theorem Tryz.bytealg_Cutover (n : Int) (h0 : 0 ≤ n) (h1 : n < 4611686018427387904) (w : World) :
    Calls Tryz.prog 84 #[.int .i64 n] w fun e w' => e = .returned (.int .i64 ((n + 16) / 8)) ∧ w' = w := Any.bytealg_Cutover Tryz.lays224 n h0 h1 w
def Tryz.lays314_ren : Go.Shelf.Ren := ⟨fun | 314 => 103 | n => n, fun | 9 => 9 | 51 => 95 | 3 => 3 | 4 => 4 | 5 => 5 | 46 => 50 | n => n, fun | n => n⟩
theorem Tryz.lays314 : Go.Proofs.Lays.n314 Tryz.prog Tryz.lays314_ren := {
  mixed := by kernel_rfl
  f314 := Tryz.func103.trans (congrArg some (by kernel_rfl))
  t3 := Tryz.underlying3
  a3 := Tryz.isAgg3
  z3 := Tryz.sizeOf3
  v3 := Tryz.zeroValue3
  t4 := Tryz.underlying4
  a4 := Tryz.isAgg4
  z4 := Tryz.sizeOf4
  v4 := Tryz.zeroValue4
  t5 := Tryz.underlying5
  a5 := Tryz.isAgg5
  z5 := Tryz.sizeOf5
  v5 := Tryz.zeroValue5
  t9 := Tryz.underlying9
  a9 := Tryz.isAgg9
  z9 := Tryz.sizeOf9
  v9 := Tryz.zeroValue9
  t46 := Tryz.underlying50
  a46 := Tryz.isAgg50
  z46 := Tryz.sizeOf50
  v46 := Tryz.zeroValue50
  t51 := Tryz.underlying95
  a51 := Tryz.isAgg95
  z51 := Tryz.sizeOf95
  v51 := Tryz.zeroValue95 }
open Go.RowKit Go.Lib in
/-- hashStr: "returns the hash and the appropriate multiplicative factor for use in Rabin-Karp algorithm": THE HASH OF ALL OF sep, AND 16777619 ^ len(sep), both in uint32. (LAID: no walk: one application.) -/
theorem Tryz.bytealg_hashStr (sep : ByteArray) (hs : sep.size < 4294967281) (w : World) :
    Calls Tryz.prog 103 #[.string sep] w fun e w' => e = .returned (.tuple #[.int .u32 (RK.H sep.data.toList % 4294967296), .int .u32 (16777619 ^ sep.size % 4294967296)]) ∧ w' = w := Any.bytealg_hashStr Tryz.lays314 sep hs w
def Tryz.lays267_ren : Go.Shelf.Ren := ⟨fun | 267 => 85 | 314 => 103 | n => n, fun | 9 => 9 | 3 => 3 | 146 => 114 | 51 => 95 | 4 => 4 | 5 => 5 | 46 => 50 | n => n, fun | n => n⟩
theorem Tryz.lays267 : Go.Proofs.Lays.n267 Tryz.prog Tryz.lays267_ren := {
  mixed := by kernel_rfl
  f267 := Tryz.func85.trans (congrArg some (by kernel_rfl))
  f314 := Tryz.func103.trans (congrArg some (by kernel_rfl))
  t3 := Tryz.underlying3
  a3 := Tryz.isAgg3
  z3 := Tryz.sizeOf3
  v3 := Tryz.zeroValue3
  t4 := Tryz.underlying4
  a4 := Tryz.isAgg4
  z4 := Tryz.sizeOf4
  v4 := Tryz.zeroValue4
  t5 := Tryz.underlying5
  a5 := Tryz.isAgg5
  z5 := Tryz.sizeOf5
  v5 := Tryz.zeroValue5
  t9 := Tryz.underlying9
  a9 := Tryz.isAgg9
  z9 := Tryz.sizeOf9
  v9 := Tryz.zeroValue9
  t46 := Tryz.underlying50
  a46 := Tryz.isAgg50
  z46 := Tryz.sizeOf50
  v46 := Tryz.zeroValue50
  t51 := Tryz.underlying95
  a51 := Tryz.isAgg95
  z51 := Tryz.sizeOf95
  v51 := Tryz.zeroValue95
  t146 := Tryz.underlying114
  a146 := Tryz.isAgg114
  z146 := Tryz.sizeOf114
  v146 := Tryz.zeroValue114 }
open Go.RowKit Go.Lib in
theorem Tryz.bytealg_IndexRabinKarp (s sep : ByteArray) (h1 : 1 ≤ sep.size) (h2 : sep.size ≤ s.size) (hs : s.size < 4294967281) (w : World) :
    Calls Tryz.prog 85 #[.string s, .string sep] w fun e w' => e = .returned (.int .i64 (Lib.index s.data.toList sep.data.toList)) ∧ w' = w := Any.bytealg_IndexRabinKarp Tryz.lays267 s sep h1 h2 hs w
def Tryz.lays219_ren : Go.Shelf.Ren := ⟨fun | 219 => 64 | 217 => 82 | 225 => 83 | 224 => 84 | 267 => 85 | 266 => 102 | 314 => 103 | n => n, fun | 9 => 9 | 3 => 3 | 4 => 4 | 5 => 5 | 46 => 50 | 146 => 114 | 51 => 95 | n => n, fun | 1 => 2 | n => n⟩
theorem Tryz.lays219 : Go.Proofs.Lays.n219 Tryz.prog Tryz.lays219_ren := {
  mixed := by kernel_rfl
  f217 := Tryz.func82.trans (congrArg some (by kernel_rfl))
  f219 := Tryz.func64.trans (congrArg some (by kernel_rfl))
  f224 := Tryz.func84.trans (congrArg some (by kernel_rfl))
  f225 := Tryz.func83.trans (congrArg some (by kernel_rfl))
  f266 := Tryz.func102.trans (congrArg some (by kernel_rfl))
  f267 := Tryz.func85.trans (congrArg some (by kernel_rfl))
  f314 := Tryz.func103.trans (congrArg some (by kernel_rfl))
  t3 := Tryz.underlying3
  a3 := Tryz.isAgg3
  z3 := Tryz.sizeOf3
  v3 := Tryz.zeroValue3
  t4 := Tryz.underlying4
  a4 := Tryz.isAgg4
  z4 := Tryz.sizeOf4
  v4 := Tryz.zeroValue4
  t5 := Tryz.underlying5
  a5 := Tryz.isAgg5
  z5 := Tryz.sizeOf5
  v5 := Tryz.zeroValue5
  t9 := Tryz.underlying9
  a9 := Tryz.isAgg9
  z9 := Tryz.sizeOf9
  v9 := Tryz.zeroValue9
  t46 := Tryz.underlying50
  a46 := Tryz.isAgg50
  z46 := Tryz.sizeOf50
  v46 := Tryz.zeroValue50
  t51 := Tryz.underlying95
  a51 := Tryz.isAgg95
  z51 := Tryz.sizeOf95
  v51 := Tryz.zeroValue95
  t146 := Tryz.underlying114
  a146 := Tryz.isAgg114
  z146 := Tryz.sizeOf114
  v146 := Tryz.zeroValue114
  g1 := by kernel_rfl }
open Go.RowKit Go.Lib in
/-- internal/stringslite.Index (what strings.Index calls) AT A substr OF ONE BYTE c: IT RETURNS 'Lib.indexByte s c'; the world is as it was. (LAID: no walk: one application.) -/
theorem Tryz.stringslite_Index_one (s : ByteArray) (c : UInt8) (w : World) :
    Calls Tryz.prog 64 #[.string s, .string ⟨#[c]⟩] w fun e w' => e = .returned (.int .i64 (Lib.indexByte s.data.toList c)) ∧ w' = w := Any.stringslite_Index_one Tryz.lays219 s c w
open Go.RowKit Go.Lib in
/-- internal/stringslite.Index (what strings.Index calls) AT A substr OF WHATEVER LENGTH: IT RETURNS 'Lib.index s substr'; the world is as it was. 'm': what internal/bytealg.MaxLen holds: whatever. (LAID: no walk: one application.) -/
theorem Tryz.stringslite_Index (s sub : ByteArray) (m : Int) (w : World) (hs : s.size < 4294967281) (hm : w.cell? ⟨2, 0, none⟩ = some (.int .i64 m)) :
    Calls Tryz.prog 64 #[.string s, .string sub] w fun e w' => e = .returned (.int .i64 (Lib.index s.data.toList sub.data.toList)) ∧ w' = w := Any.stringslite_Index Tryz.lays219 s sub m w hs hm
def Tryz.lays143_ren : Go.Shelf.Ren := ⟨fun | 143 => 50 | 219 => 64 | 217 => 82 | 225 => 83 | 224 => 84 | 267 => 85 | 266 => 102 | 314 => 103 | n => n, fun | 9 => 9 | 3 => 3 | 4 => 4 | 5 => 5 | 46 => 50 | 146 => 114 | 51 => 95 | n => n, fun | 1 => 2 | n => n⟩
theorem Tryz.lays143 : Go.Proofs.Lays.n143 Tryz.prog Tryz.lays143_ren := {
  mixed := by kernel_rfl
  f143 := Tryz.func50.trans (congrArg some (by kernel_rfl))
  f217 := Tryz.func82.trans (congrArg some (by kernel_rfl))
  f219 := Tryz.func64.trans (congrArg some (by kernel_rfl))
  f224 := Tryz.func84.trans (congrArg some (by kernel_rfl))
  f225 := Tryz.func83.trans (congrArg some (by kernel_rfl))
  f266 := Tryz.func102.trans (congrArg some (by kernel_rfl))
  f267 := Tryz.func85.trans (congrArg some (by kernel_rfl))
  f314 := Tryz.func103.trans (congrArg some (by kernel_rfl))
  t3 := Tryz.underlying3
  a3 := Tryz.isAgg3
  z3 := Tryz.sizeOf3
  v3 := Tryz.zeroValue3
  t4 := Tryz.underlying4
  a4 := Tryz.isAgg4
  z4 := Tryz.sizeOf4
  v4 := Tryz.zeroValue4
  t5 := Tryz.underlying5
  a5 := Tryz.isAgg5
  z5 := Tryz.sizeOf5
  v5 := Tryz.zeroValue5
  t9 := Tryz.underlying9
  a9 := Tryz.isAgg9
  z9 := Tryz.sizeOf9
  v9 := Tryz.zeroValue9
  t46 := Tryz.underlying50
  a46 := Tryz.isAgg50
  z46 := Tryz.sizeOf50
  v46 := Tryz.zeroValue50
  t51 := Tryz.underlying95
  a51 := Tryz.isAgg95
  z51 := Tryz.sizeOf95
  v51 := Tryz.zeroValue95
  t146 := Tryz.underlying114
  a146 := Tryz.isAgg114
  z146 := Tryz.sizeOf114
  v146 := Tryz.zeroValue114
  g1 := by kernel_rfl }
open Go.RowKit Go.Lib in
/-- strings.Index: "Index returns the index of the first instance of substr in s, or -1 if substr is not present in s.": AT A substr OF ONE BYTE c: IT RETURNS 'Lib.indexByte s c'; the world is as it was. (LAID: no walk: one application.) -/
theorem Tryz.strings_Index_one (s : ByteArray) (c : UInt8) (w : World) :
    Calls Tryz.prog 50 #[.string s, .string ⟨#[c]⟩] w fun e w' => e = .returned (.int .i64 (Lib.indexByte s.data.toList c)) ∧ w' = w := Any.strings_Index_one Tryz.lays143 s c w
open Go.RowKit Go.Lib in
/-- strings.Index: "Index returns the index of the first instance of substr in s, or -1 if substr is not present in s.": IT RETURNS 'Lib.index s substr'; the world is as it was. (LAID: no walk: one application.) -/
theorem Tryz.strings_Index (s sub : ByteArray) (m : Int) (w : World) (hs : s.size < 4294967281) (hm : w.cell? ⟨2, 0, none⟩ = some (.int .i64 m)) :
    Calls Tryz.prog 50 #[.string s, .string sub] w fun e w' => e = .returned (.int .i64 (Lib.index s.data.toList sub.data.toList)) ∧ w' = w := Any.strings_Index Tryz.lays143 s sub m w hs hm
def Tryz.lays144_ren : Go.Shelf.Ren := ⟨fun | 144 => 35 | 143 => 50 | 219 => 64 | 217 => 82 | 225 => 83 | 224 => 84 | 267 => 85 | 266 => 102 | 314 => 103 | n => n, fun | 9 => 9 | 4 => 4 | 3 => 3 | 5 => 5 | 46 => 50 | 146 => 114 | 51 => 95 | n => n, fun | 1 => 2 | n => n⟩
theorem Tryz.lays144 : Go.Proofs.Lays.n144 Tryz.prog Tryz.lays144_ren := {
  mixed := by kernel_rfl
  f143 := Tryz.func50.trans (congrArg some (by kernel_rfl))
  f144 := Tryz.func35.trans (congrArg some (by kernel_rfl))
  f217 := Tryz.func82.trans (congrArg some (by kernel_rfl))
  f219 := Tryz.func64.trans (congrArg some (by kernel_rfl))
  f224 := Tryz.func84.trans (congrArg some (by kernel_rfl))
  f225 := Tryz.func83.trans (congrArg some (by kernel_rfl))
  f266 := Tryz.func102.trans (congrArg some (by kernel_rfl))
  f267 := Tryz.func85.trans (congrArg some (by kernel_rfl))
  f314 := Tryz.func103.trans (congrArg some (by kernel_rfl))
  t3 := Tryz.underlying3
  a3 := Tryz.isAgg3
  z3 := Tryz.sizeOf3
  v3 := Tryz.zeroValue3
  t4 := Tryz.underlying4
  a4 := Tryz.isAgg4
  z4 := Tryz.sizeOf4
  v4 := Tryz.zeroValue4
  t5 := Tryz.underlying5
  a5 := Tryz.isAgg5
  z5 := Tryz.sizeOf5
  v5 := Tryz.zeroValue5
  t9 := Tryz.underlying9
  a9 := Tryz.isAgg9
  z9 := Tryz.sizeOf9
  v9 := Tryz.zeroValue9
  t46 := Tryz.underlying50
  a46 := Tryz.isAgg50
  z46 := Tryz.sizeOf50
  v46 := Tryz.zeroValue50
  t51 := Tryz.underlying95
  a51 := Tryz.isAgg95
  z51 := Tryz.sizeOf95
  v51 := Tryz.zeroValue95
  t146 := Tryz.underlying114
  a146 := Tryz.isAgg114
  z146 := Tryz.sizeOf114
  v146 := Tryz.zeroValue114
  g1 := by kernel_rfl }
open Go.RowKit Go.Lib in
/-- strings.Contains: "Contains reports whether substr is within s.": AT A substr OF ONE BYTE c: IT RETURNS 'decide (0 ≤ Lib.indexByte s c)'; the world is as it was. (LAID: no walk: one application.) -/
theorem Tryz.strings_Contains_one (s : ByteArray) (c : UInt8) (w : World) :
    Calls Tryz.prog 35 #[.string s, .string ⟨#[c]⟩] w fun e w' => e = .returned (.bool (decide (0 ≤ Lib.indexByte s.data.toList c))) ∧ w' = w := Any.strings_Contains_one Tryz.lays144 s c w
open Go.RowKit Go.Lib in
/-- strings.Contains: "Contains reports whether substr is within s.": IT RETURNS 'Lib.contains s substr'; the world is as it was. (LAID: no walk: one application.) -/
theorem Tryz.strings_Contains (s sub : ByteArray) (m : Int) (w : World) (hs : s.size < 4294967281) (hm : w.cell? ⟨2, 0, none⟩ = some (.int .i64 m)) :
    Calls Tryz.prog 35 #[.string s, .string sub] w fun e w' => e = .returned (.bool (Lib.contains s.data.toList sub.data.toList)) ∧ w' = w := Any.strings_Contains Tryz.lays144 s sub m w hs hm
def Tryz.lays220_ren : Go.Shelf.Ren := ⟨fun | 220 => 56 | 219 => 64 | 217 => 82 | 225 => 83 | 224 => 84 | 267 => 85 | 266 => 102 | 314 => 103 | n => n, fun | 9 => 9 | 4 => 4 | 3 => 3 | 5 => 5 | 46 => 50 | 146 => 114 | 51 => 95 | n => n, fun | 1 => 2 | n => n⟩
theorem Tryz.lays220 : Go.Proofs.Lays.n220 Tryz.prog Tryz.lays220_ren := {
  mixed := by kernel_rfl
  f217 := Tryz.func82.trans (congrArg some (by kernel_rfl))
  f219 := Tryz.func64.trans (congrArg some (by kernel_rfl))
  f220 := Tryz.func56.trans (congrArg some (by kernel_rfl))
  f224 := Tryz.func84.trans (congrArg some (by kernel_rfl))
  f225 := Tryz.func83.trans (congrArg some (by kernel_rfl))
  f266 := Tryz.func102.trans (congrArg some (by kernel_rfl))
  f267 := Tryz.func85.trans (congrArg some (by kernel_rfl))
  f314 := Tryz.func103.trans (congrArg some (by kernel_rfl))
  t3 := Tryz.underlying3
  a3 := Tryz.isAgg3
  z3 := Tryz.sizeOf3
  v3 := Tryz.zeroValue3
  t4 := Tryz.underlying4
  a4 := Tryz.isAgg4
  z4 := Tryz.sizeOf4
  v4 := Tryz.zeroValue4
  t5 := Tryz.underlying5
  a5 := Tryz.isAgg5
  z5 := Tryz.sizeOf5
  v5 := Tryz.zeroValue5
  t9 := Tryz.underlying9
  a9 := Tryz.isAgg9
  z9 := Tryz.sizeOf9
  v9 := Tryz.zeroValue9
  t46 := Tryz.underlying50
  a46 := Tryz.isAgg50
  z46 := Tryz.sizeOf50
  v46 := Tryz.zeroValue50
  t51 := Tryz.underlying95
  a51 := Tryz.isAgg95
  z51 := Tryz.sizeOf95
  v51 := Tryz.zeroValue95
  t146 := Tryz.underlying114
  a146 := Tryz.isAgg114
  z146 := Tryz.sizeOf114
  v146 := Tryz.zeroValue114
  g1 := by kernel_rfl }
open Go.RowKit Go.Lib in
/-- internal/stringslite.Cut (what strings.Cut calls): IT RETURNS 'Lib.cut s sep'; the world is as it was but for the count of draws. (LAID: no walk: one application.) -/
theorem Tryz.stringslite_Cut (s sep : ByteArray) (m : Int) (w : World) (hs : s.size < 4294967281) (hm : w.cell? ⟨2, 0, none⟩ = some (.int .i64 m)) :
    Calls Tryz.prog 56 #[.string s, .string sep] w fun e w' => e = .returned (.tuple #[.string ⟨(Lib.cut s.data.toList sep.data.toList).1.toArray⟩, .string ⟨(Lib.cut s.data.toList sep.data.toList).2.1.toArray⟩, .bool (Lib.cut s.data.toList sep.data.toList).2.2]) ∧ ∃ n, w' = w.drewN n := Any.stringslite_Cut Tryz.lays220 s sep m w hs hm
def Tryz.lays145_ren : Go.Shelf.Ren := ⟨fun | 145 => 38 | 220 => 56 | 219 => 64 | 217 => 82 | 225 => 83 | 224 => 84 | 267 => 85 | 266 => 102 | 314 => 103 | n => n, fun | 9 => 9 | 4 => 4 | 59 => 55 | 3 => 3 | 5 => 5 | 46 => 50 | 146 => 114 | 51 => 95 | n => n, fun | 1 => 2 | n => n⟩
theorem Tryz.lays145 : Go.Proofs.Lays.n145 Tryz.prog Tryz.lays145_ren := {
  mixed := by kernel_rfl
  f145 := Tryz.func38.trans (congrArg some (by kernel_rfl))
  f217 := Tryz.func82.trans (congrArg some (by kernel_rfl))
  f219 := Tryz.func64.trans (congrArg some (by kernel_rfl))
  f220 := Tryz.func56.trans (congrArg some (by kernel_rfl))
  f224 := Tryz.func84.trans (congrArg some (by kernel_rfl))
  f225 := Tryz.func83.trans (congrArg some (by kernel_rfl))
  f266 := Tryz.func102.trans (congrArg some (by kernel_rfl))
  f267 := Tryz.func85.trans (congrArg some (by kernel_rfl))
  f314 := Tryz.func103.trans (congrArg some (by kernel_rfl))
  t3 := Tryz.underlying3
  a3 := Tryz.isAgg3
  z3 := Tryz.sizeOf3
  v3 := Tryz.zeroValue3
  t4 := Tryz.underlying4
  a4 := Tryz.isAgg4
  z4 := Tryz.sizeOf4
  v4 := Tryz.zeroValue4
  t5 := Tryz.underlying5
  a5 := Tryz.isAgg5
  z5 := Tryz.sizeOf5
  v5 := Tryz.zeroValue5
  t9 := Tryz.underlying9
  a9 := Tryz.isAgg9
  z9 := Tryz.sizeOf9
  v9 := Tryz.zeroValue9
  t46 := Tryz.underlying50
  a46 := Tryz.isAgg50
  z46 := Tryz.sizeOf50
  v46 := Tryz.zeroValue50
  t51 := Tryz.underlying95
  a51 := Tryz.isAgg95
  z51 := Tryz.sizeOf95
  v51 := Tryz.zeroValue95
  t59 := Tryz.underlying55
  a59 := Tryz.isAgg55
  z59 := Tryz.sizeOf55
  v59 := Tryz.zeroValue55
  t146 := Tryz.underlying114
  a146 := Tryz.isAgg114
  z146 := Tryz.sizeOf114
  v146 := Tryz.zeroValue114
  g1 := by kernel_rfl }
open Go.RowKit Go.Lib in
/-- strings.Cut: "Cut slices s around the first instance of sep, returning the text before and after sep. The found result reports whether sep appears in s. If sep does not appear in s, cut returns s, "", false.": IT RETURNS 'Lib.cut s sep'; the world is as it was but for the count of draws. (LAID: no walk: one application.) -/
theorem Tryz.strings_Cut (s sep : ByteArray) (m : Int) (w : World) (hs : s.size < 4294967281) (hm : w.cell? ⟨2, 0, none⟩ = some (.int .i64 m)) :
    Calls Tryz.prog 38 #[.string s, .string sep] w fun e w' => e = .returned (.tuple #[.string ⟨(Lib.cut s.data.toList sep.data.toList).1.toArray⟩, .string ⟨(Lib.cut s.data.toList sep.data.toList).2.1.toArray⟩, .bool (Lib.cut s.data.toList sep.data.toList).2.2]) ∧ ∃ n, w' = w.drewN n := Any.strings_Cut Tryz.lays145 s sep m w hs hm
def Tryz.lays138_ren : Go.Shelf.Ren := ⟨fun | 138 => 51 | 195 => 65 | 218 => 66 | 143 => 50 | 219 => 64 | 217 => 82 | 225 => 83 | 224 => 84 | 267 => 85 | 266 => 102 | 314 => 103 | n => n, fun | 9 => 9 | 3 => 3 | 4 => 4 | 5 => 5 | 0 => 0 | 46 => 50 | 146 => 114 | 51 => 95 | n => n, fun | 1 => 2 | n => n⟩
theorem Tryz.lays138 : Go.Proofs.Lays.n138 Tryz.prog Tryz.lays138_ren := {
  mixed := by kernel_rfl
  f138 := Tryz.func51.trans (congrArg some (by kernel_rfl))
  f143 := Tryz.func50.trans (congrArg some (by kernel_rfl))
  f195 := Tryz.func65.trans (congrArg some (by kernel_rfl))
  f217 := Tryz.func82.trans (congrArg some (by kernel_rfl))
  f218 := Tryz.func66.trans (congrArg some (by kernel_rfl))
  f219 := Tryz.func64.trans (congrArg some (by kernel_rfl))
  f224 := Tryz.func84.trans (congrArg some (by kernel_rfl))
  f225 := Tryz.func83.trans (congrArg some (by kernel_rfl))
  f266 := Tryz.func102.trans (congrArg some (by kernel_rfl))
  f267 := Tryz.func85.trans (congrArg some (by kernel_rfl))
  f314 := Tryz.func103.trans (congrArg some (by kernel_rfl))
  t0 := Tryz.underlying0
  a0 := Tryz.isAgg0
  z0 := Tryz.sizeOf0
  v0 := Tryz.zeroValue0
  t3 := Tryz.underlying3
  a3 := Tryz.isAgg3
  z3 := Tryz.sizeOf3
  v3 := Tryz.zeroValue3
  t4 := Tryz.underlying4
  a4 := Tryz.isAgg4
  z4 := Tryz.sizeOf4
  v4 := Tryz.zeroValue4
  t5 := Tryz.underlying5
  a5 := Tryz.isAgg5
  z5 := Tryz.sizeOf5
  v5 := Tryz.zeroValue5
  t9 := Tryz.underlying9
  a9 := Tryz.isAgg9
  z9 := Tryz.sizeOf9
  v9 := Tryz.zeroValue9
  t46 := Tryz.underlying50
  a46 := Tryz.isAgg50
  z46 := Tryz.sizeOf50
  v46 := Tryz.zeroValue50
  t51 := Tryz.underlying95
  a51 := Tryz.isAgg95
  z51 := Tryz.sizeOf95
  v51 := Tryz.zeroValue95
  t146 := Tryz.underlying114
  a146 := Tryz.isAgg114
  z146 := Tryz.sizeOf114
  v146 := Tryz.zeroValue114
  g1 := by kernel_rfl }
open Go.RowKit Go.Lib in
/-- strings.Count AT A substr OF ONE BYTE ('hp'): "Count counts the number of non-overlapping instances of substr in s.": IT RETURNS 'Lib.countByte s (that byte)'; the world is as it was. ✋ NO CONTRACT HERE YET at an empty substr (utf8.RuneCountInString) or at a longer one (a loop over strings.Index). (LAID: no walk: one application.) -/
theorem Tryz.strings_Count_one (s : ByteArray) (c : UInt8) (w : World) :
    Calls Tryz.prog 51 #[.string s, .string ⟨#[c]⟩] w fun e w' => e = .returned (.int .i64 (Lib.countByte s.data.toList c)) ∧ w' = w := Any.strings_Count_one Tryz.lays138 s c w
open Go.RowKit Go.Lib in
/-- strings.Count AT A substr OF TWO BYTES OR MORE: "Count counts the number of non-overlapping instances of substr in s.": IT RETURNS 'Lib.count s substr'; the world is as it was. (LAID: no walk: one application.) -/
theorem Tryz.strings_Count (s sub : ByteArray) (m : Int) (w : World) (hs : s.size < 4294967281) (hm : w.cell? ⟨2, 0, none⟩ = some (.int .i64 m)) (h2 : 2 ≤ sub.size) :
    Calls Tryz.prog 51 #[.string s, .string sub] w fun e w' => e = .returned (.int .i64 (Lib.countB s sub)) ∧ w' = w := Any.strings_Count Tryz.lays138 s sub m w hs hm h2
def Tryz.laysM219_ren : Go.Shelf.Ren := ⟨fun | 219 => 64 | 217 => 82 | 225 => 83 | 224 => 84 | 267 => 85 | 266 => 102 | 314 => 103 | n => n, fun | 9 => 9 | 3 => 3 | 4 => 4 | 5 => 5 | 46 => 50 | 146 => 114 | 51 => 95 | n => n, fun | 1 => 2 | n => n⟩
theorem Tryz.laysM219 : Go.Proofs.LaysM.n219 Tryz.prog Tryz.laysM219_ren := {
  mixed := by kernel_rfl
  f217 := Tryz.func82.trans (congrArg some (by kernel_rfl))
  f219 := Tryz.func64.trans (congrArg some (by kernel_rfl))
  f224 := Tryz.func84.trans (congrArg some (by kernel_rfl))
  f225 := Tryz.func83.trans (congrArg some (by kernel_rfl))
  f266 := Tryz.func102.trans (congrArg some (by kernel_rfl))
  f267 := Tryz.func85.trans (congrArg some (by kernel_rfl))
  f314 := Tryz.func103.trans (congrArg some (by kernel_rfl))
  t3 := Tryz.underlying3
  a3 := Tryz.isAgg3
  z3 := Tryz.sizeOf3
  v3 := Tryz.zeroValue3
  t4 := Tryz.underlying4
  a4 := Tryz.isAgg4
  z4 := Tryz.sizeOf4
  v4 := Tryz.zeroValue4
  t5 := Tryz.underlying5
  a5 := Tryz.isAgg5
  z5 := Tryz.sizeOf5
  v5 := Tryz.zeroValue5
  t9 := Tryz.underlying9
  a9 := Tryz.isAgg9
  z9 := Tryz.sizeOf9
  v9 := Tryz.zeroValue9
  t46 := Tryz.underlying50
  a46 := Tryz.isAgg50
  z46 := Tryz.sizeOf50
  v46 := Tryz.zeroValue50
  t51 := Tryz.underlying95
  a51 := Tryz.isAgg95
  z51 := Tryz.sizeOf95
  v51 := Tryz.zeroValue95
  t146 := Tryz.underlying114
  a146 := Tryz.isAgg114
  z146 := Tryz.sizeOf114
  v146 := Tryz.zeroValue114
  g1 := by kernel_rfl
  i3 := by kernel_rfl
  i4 := by kernel_rfl
  i5 := by kernel_rfl
  i9 := by kernel_rfl
  i46 := by kernel_rfl
  i51 := by kernel_rfl
  i146 := by kernel_rfl
  m1 := by kernel_rfl
  s1_3 := fun w h => Go.Proofs.cell_of_shapedOpen_int (zero := #[.int .i64 0]) (t := 3) h (of_decide_eq_true (by kernel_rfl)) (by kernel_rfl) rfl (by kernel_rfl) (by kernel_rfl) Tryz.underlying3 }
open Go.RowKit Go.Lib in
theorem Tryz.stringslite_Index_shaped (s sub : ByteArray) (w : World) (h : w.ShapedOpen Tryz.prog) (hs : s.size < 4294967281) :
    Calls Tryz.prog 64 #[.string s, .string sub] w fun e w' => e = .returned (.int .i64 (Lib.index s.data.toList sub.data.toList)) ∧ w' = w := Any.stringslite_Index_shaped Tryz.laysM219 s sub w h hs
def Tryz.laysM143_ren : Go.Shelf.Ren := ⟨fun | 143 => 50 | 219 => 64 | 217 => 82 | 225 => 83 | 224 => 84 | 267 => 85 | 266 => 102 | 314 => 103 | n => n, fun | 9 => 9 | 3 => 3 | 4 => 4 | 5 => 5 | 46 => 50 | 146 => 114 | 51 => 95 | n => n, fun | 1 => 2 | n => n⟩
theorem Tryz.laysM143 : Go.Proofs.LaysM.n143 Tryz.prog Tryz.laysM143_ren := {
  mixed := by kernel_rfl
  f143 := Tryz.func50.trans (congrArg some (by kernel_rfl))
  f217 := Tryz.func82.trans (congrArg some (by kernel_rfl))
  f219 := Tryz.func64.trans (congrArg some (by kernel_rfl))
  f224 := Tryz.func84.trans (congrArg some (by kernel_rfl))
  f225 := Tryz.func83.trans (congrArg some (by kernel_rfl))
  f266 := Tryz.func102.trans (congrArg some (by kernel_rfl))
  f267 := Tryz.func85.trans (congrArg some (by kernel_rfl))
  f314 := Tryz.func103.trans (congrArg some (by kernel_rfl))
  t3 := Tryz.underlying3
  a3 := Tryz.isAgg3
  z3 := Tryz.sizeOf3
  v3 := Tryz.zeroValue3
  t4 := Tryz.underlying4
  a4 := Tryz.isAgg4
  z4 := Tryz.sizeOf4
  v4 := Tryz.zeroValue4
  t5 := Tryz.underlying5
  a5 := Tryz.isAgg5
  z5 := Tryz.sizeOf5
  v5 := Tryz.zeroValue5
  t9 := Tryz.underlying9
  a9 := Tryz.isAgg9
  z9 := Tryz.sizeOf9
  v9 := Tryz.zeroValue9
  t46 := Tryz.underlying50
  a46 := Tryz.isAgg50
  z46 := Tryz.sizeOf50
  v46 := Tryz.zeroValue50
  t51 := Tryz.underlying95
  a51 := Tryz.isAgg95
  z51 := Tryz.sizeOf95
  v51 := Tryz.zeroValue95
  t146 := Tryz.underlying114
  a146 := Tryz.isAgg114
  z146 := Tryz.sizeOf114
  v146 := Tryz.zeroValue114
  g1 := by kernel_rfl
  i3 := by kernel_rfl
  i4 := by kernel_rfl
  i5 := by kernel_rfl
  i9 := by kernel_rfl
  i46 := by kernel_rfl
  i51 := by kernel_rfl
  i146 := by kernel_rfl
  m1 := by kernel_rfl
  s1_3 := fun w h => Go.Proofs.cell_of_shapedOpen_int (zero := #[.int .i64 0]) (t := 3) h (of_decide_eq_true (by kernel_rfl)) (by kernel_rfl) rfl (by kernel_rfl) (by kernel_rfl) Tryz.underlying3 }
open Go.RowKit Go.Lib in
theorem Tryz.strings_Index_shaped (s sub : ByteArray) (w : World) (h : w.ShapedOpen Tryz.prog) (hs : s.size < 4294967281) :
    Calls Tryz.prog 50 #[.string s, .string sub] w fun e w' => e = .returned (.int .i64 (Lib.index s.data.toList sub.data.toList)) ∧ w' = w := Any.strings_Index_shaped Tryz.laysM143 s sub w h hs
def Tryz.laysM144_ren : Go.Shelf.Ren := ⟨fun | 144 => 35 | 143 => 50 | 219 => 64 | 217 => 82 | 225 => 83 | 224 => 84 | 267 => 85 | 266 => 102 | 314 => 103 | n => n, fun | 9 => 9 | 4 => 4 | 3 => 3 | 5 => 5 | 46 => 50 | 146 => 114 | 51 => 95 | n => n, fun | 1 => 2 | n => n⟩
theorem Tryz.laysM144 : Go.Proofs.LaysM.n144 Tryz.prog Tryz.laysM144_ren := {
  mixed := by kernel_rfl
  f143 := Tryz.func50.trans (congrArg some (by kernel_rfl))
  f144 := Tryz.func35.trans (congrArg some (by kernel_rfl))
  f217 := Tryz.func82.trans (congrArg some (by kernel_rfl))
  f219 := Tryz.func64.trans (congrArg some (by kernel_rfl))
  f224 := Tryz.func84.trans (congrArg some (by kernel_rfl))
  f225 := Tryz.func83.trans (congrArg some (by kernel_rfl))
  f266 := Tryz.func102.trans (congrArg some (by kernel_rfl))
  f267 := Tryz.func85.trans (congrArg some (by kernel_rfl))
  f314 := Tryz.func103.trans (congrArg some (by kernel_rfl))
  t3 := Tryz.underlying3
  a3 := Tryz.isAgg3
  z3 := Tryz.sizeOf3
  v3 := Tryz.zeroValue3
  t4 := Tryz.underlying4
  a4 := Tryz.isAgg4
  z4 := Tryz.sizeOf4
  v4 := Tryz.zeroValue4
  t5 := Tryz.underlying5
  a5 := Tryz.isAgg5
  z5 := Tryz.sizeOf5
  v5 := Tryz.zeroValue5
  t9 := Tryz.underlying9
  a9 := Tryz.isAgg9
  z9 := Tryz.sizeOf9
  v9 := Tryz.zeroValue9
  t46 := Tryz.underlying50
  a46 := Tryz.isAgg50
  z46 := Tryz.sizeOf50
  v46 := Tryz.zeroValue50
  t51 := Tryz.underlying95
  a51 := Tryz.isAgg95
  z51 := Tryz.sizeOf95
  v51 := Tryz.zeroValue95
  t146 := Tryz.underlying114
  a146 := Tryz.isAgg114
  z146 := Tryz.sizeOf114
  v146 := Tryz.zeroValue114
  g1 := by kernel_rfl
  i3 := by kernel_rfl
  i4 := by kernel_rfl
  i5 := by kernel_rfl
  i9 := by kernel_rfl
  i46 := by kernel_rfl
  i51 := by kernel_rfl
  i146 := by kernel_rfl
  m1 := by kernel_rfl
  s1_3 := fun w h => Go.Proofs.cell_of_shapedOpen_int (zero := #[.int .i64 0]) (t := 3) h (of_decide_eq_true (by kernel_rfl)) (by kernel_rfl) rfl (by kernel_rfl) (by kernel_rfl) Tryz.underlying3 }
open Go.RowKit Go.Lib in
theorem Tryz.strings_Contains_shaped (s sub : ByteArray) (w : World) (h : w.ShapedOpen Tryz.prog) (hs : s.size < 4294967281) :
    Calls Tryz.prog 35 #[.string s, .string sub] w fun e w' => e = .returned (.bool (Lib.contains s.data.toList sub.data.toList)) ∧ w' = w := Any.strings_Contains_shaped Tryz.laysM144 s sub w h hs
def Tryz.laysM220_ren : Go.Shelf.Ren := ⟨fun | 220 => 56 | 219 => 64 | 217 => 82 | 225 => 83 | 224 => 84 | 267 => 85 | 266 => 102 | 314 => 103 | n => n, fun | 9 => 9 | 4 => 4 | 3 => 3 | 5 => 5 | 46 => 50 | 146 => 114 | 51 => 95 | n => n, fun | 1 => 2 | n => n⟩
theorem Tryz.laysM220 : Go.Proofs.LaysM.n220 Tryz.prog Tryz.laysM220_ren := {
  mixed := by kernel_rfl
  f217 := Tryz.func82.trans (congrArg some (by kernel_rfl))
  f219 := Tryz.func64.trans (congrArg some (by kernel_rfl))
  f220 := Tryz.func56.trans (congrArg some (by kernel_rfl))
  f224 := Tryz.func84.trans (congrArg some (by kernel_rfl))
  f225 := Tryz.func83.trans (congrArg some (by kernel_rfl))
  f266 := Tryz.func102.trans (congrArg some (by kernel_rfl))
  f267 := Tryz.func85.trans (congrArg some (by kernel_rfl))
  f314 := Tryz.func103.trans (congrArg some (by kernel_rfl))
  t3 := Tryz.underlying3
  a3 := Tryz.isAgg3
  z3 := Tryz.sizeOf3
  v3 := Tryz.zeroValue3
  t4 := Tryz.underlying4
  a4 := Tryz.isAgg4
  z4 := Tryz.sizeOf4
  v4 := Tryz.zeroValue4
  t5 := Tryz.underlying5
  a5 := Tryz.isAgg5
  z5 := Tryz.sizeOf5
  v5 := Tryz.zeroValue5
  t9 := Tryz.underlying9
  a9 := Tryz.isAgg9
  z9 := Tryz.sizeOf9
  v9 := Tryz.zeroValue9
  t46 := Tryz.underlying50
  a46 := Tryz.isAgg50
  z46 := Tryz.sizeOf50
  v46 := Tryz.zeroValue50
  t51 := Tryz.underlying95
  a51 := Tryz.isAgg95
  z51 := Tryz.sizeOf95
  v51 := Tryz.zeroValue95
  t146 := Tryz.underlying114
  a146 := Tryz.isAgg114
  z146 := Tryz.sizeOf114
  v146 := Tryz.zeroValue114
  g1 := by kernel_rfl
  i3 := by kernel_rfl
  i4 := by kernel_rfl
  i5 := by kernel_rfl
  i9 := by kernel_rfl
  i46 := by kernel_rfl
  i51 := by kernel_rfl
  i146 := by kernel_rfl
  m1 := by kernel_rfl
  s1_3 := fun w h => Go.Proofs.cell_of_shapedOpen_int (zero := #[.int .i64 0]) (t := 3) h (of_decide_eq_true (by kernel_rfl)) (by kernel_rfl) rfl (by kernel_rfl) (by kernel_rfl) Tryz.underlying3 }
open Go.RowKit Go.Lib in
theorem Tryz.stringslite_Cut_shaped (s sep : ByteArray) (w : World) (h : w.ShapedOpen Tryz.prog) (hs : s.size < 4294967281) :
    Calls Tryz.prog 56 #[.string s, .string sep] w fun e w' => e = .returned (.tuple #[.string ⟨(Lib.cut s.data.toList sep.data.toList).1.toArray⟩, .string ⟨(Lib.cut s.data.toList sep.data.toList).2.1.toArray⟩, .bool (Lib.cut s.data.toList sep.data.toList).2.2]) ∧ ∃ n, w' = w.drewN n := Any.stringslite_Cut_shaped Tryz.laysM220 s sep w h hs
def Tryz.laysM145_ren : Go.Shelf.Ren := ⟨fun | 145 => 38 | 220 => 56 | 219 => 64 | 217 => 82 | 225 => 83 | 224 => 84 | 267 => 85 | 266 => 102 | 314 => 103 | n => n, fun | 9 => 9 | 4 => 4 | 59 => 55 | 3 => 3 | 5 => 5 | 46 => 50 | 146 => 114 | 51 => 95 | n => n, fun | 1 => 2 | n => n⟩
theorem Tryz.laysM145 : Go.Proofs.LaysM.n145 Tryz.prog Tryz.laysM145_ren := {
  mixed := by kernel_rfl
  f145 := Tryz.func38.trans (congrArg some (by kernel_rfl))
  f217 := Tryz.func82.trans (congrArg some (by kernel_rfl))
  f219 := Tryz.func64.trans (congrArg some (by kernel_rfl))
  f220 := Tryz.func56.trans (congrArg some (by kernel_rfl))
  f224 := Tryz.func84.trans (congrArg some (by kernel_rfl))
  f225 := Tryz.func83.trans (congrArg some (by kernel_rfl))
  f266 := Tryz.func102.trans (congrArg some (by kernel_rfl))
  f267 := Tryz.func85.trans (congrArg some (by kernel_rfl))
  f314 := Tryz.func103.trans (congrArg some (by kernel_rfl))
  t3 := Tryz.underlying3
  a3 := Tryz.isAgg3
  z3 := Tryz.sizeOf3
  v3 := Tryz.zeroValue3
  t4 := Tryz.underlying4
  a4 := Tryz.isAgg4
  z4 := Tryz.sizeOf4
  v4 := Tryz.zeroValue4
  t5 := Tryz.underlying5
  a5 := Tryz.isAgg5
  z5 := Tryz.sizeOf5
  v5 := Tryz.zeroValue5
  t9 := Tryz.underlying9
  a9 := Tryz.isAgg9
  z9 := Tryz.sizeOf9
  v9 := Tryz.zeroValue9
  t46 := Tryz.underlying50
  a46 := Tryz.isAgg50
  z46 := Tryz.sizeOf50
  v46 := Tryz.zeroValue50
  t51 := Tryz.underlying95
  a51 := Tryz.isAgg95
  z51 := Tryz.sizeOf95
  v51 := Tryz.zeroValue95
  t59 := Tryz.underlying55
  a59 := Tryz.isAgg55
  z59 := Tryz.sizeOf55
  v59 := Tryz.zeroValue55
  t146 := Tryz.underlying114
  a146 := Tryz.isAgg114
  z146 := Tryz.sizeOf114
  v146 := Tryz.zeroValue114
  g1 := by kernel_rfl
  i3 := by kernel_rfl
  i4 := by kernel_rfl
  i5 := by kernel_rfl
  i9 := by kernel_rfl
  i46 := by kernel_rfl
  i51 := by kernel_rfl
  i59 := by kernel_rfl
  i146 := by kernel_rfl
  m1 := by kernel_rfl
  s1_3 := fun w h => Go.Proofs.cell_of_shapedOpen_int (zero := #[.int .i64 0]) (t := 3) h (of_decide_eq_true (by kernel_rfl)) (by kernel_rfl) rfl (by kernel_rfl) (by kernel_rfl) Tryz.underlying3 }
open Go.RowKit Go.Lib in
theorem Tryz.strings_Cut_shaped (s sep : ByteArray) (w : World) (h : w.ShapedOpen Tryz.prog) (hs : s.size < 4294967281) :
    Calls Tryz.prog 38 #[.string s, .string sep] w fun e w' => e = .returned (.tuple #[.string ⟨(Lib.cut s.data.toList sep.data.toList).1.toArray⟩, .string ⟨(Lib.cut s.data.toList sep.data.toList).2.1.toArray⟩, .bool (Lib.cut s.data.toList sep.data.toList).2.2]) ∧ ∃ n, w' = w.drewN n := Any.strings_Cut_shaped Tryz.laysM145 s sep w h hs
def Tryz.laysM138_ren : Go.Shelf.Ren := ⟨fun | 138 => 51 | 195 => 65 | 218 => 66 | 143 => 50 | 219 => 64 | 217 => 82 | 225 => 83 | 224 => 84 | 267 => 85 | 266 => 102 | 314 => 103 | n => n, fun | 9 => 9 | 3 => 3 | 4 => 4 | 5 => 5 | 0 => 0 | 46 => 50 | 146 => 114 | 51 => 95 | n => n, fun | 1 => 2 | n => n⟩
theorem Tryz.laysM138 : Go.Proofs.LaysM.n138 Tryz.prog Tryz.laysM138_ren := {
  mixed := by kernel_rfl
  f138 := Tryz.func51.trans (congrArg some (by kernel_rfl))
  f143 := Tryz.func50.trans (congrArg some (by kernel_rfl))
  f195 := Tryz.func65.trans (congrArg some (by kernel_rfl))
  f217 := Tryz.func82.trans (congrArg some (by kernel_rfl))
  f218 := Tryz.func66.trans (congrArg some (by kernel_rfl))
  f219 := Tryz.func64.trans (congrArg some (by kernel_rfl))
  f224 := Tryz.func84.trans (congrArg some (by kernel_rfl))
  f225 := Tryz.func83.trans (congrArg some (by kernel_rfl))
  f266 := Tryz.func102.trans (congrArg some (by kernel_rfl))
  f267 := Tryz.func85.trans (congrArg some (by kernel_rfl))
  f314 := Tryz.func103.trans (congrArg some (by kernel_rfl))
  t0 := Tryz.underlying0
  a0 := Tryz.isAgg0
  z0 := Tryz.sizeOf0
  v0 := Tryz.zeroValue0
  t3 := Tryz.underlying3
  a3 := Tryz.isAgg3
  z3 := Tryz.sizeOf3
  v3 := Tryz.zeroValue3
  t4 := Tryz.underlying4
  a4 := Tryz.isAgg4
  z4 := Tryz.sizeOf4
  v4 := Tryz.zeroValue4
  t5 := Tryz.underlying5
  a5 := Tryz.isAgg5
  z5 := Tryz.sizeOf5
  v5 := Tryz.zeroValue5
  t9 := Tryz.underlying9
  a9 := Tryz.isAgg9
  z9 := Tryz.sizeOf9
  v9 := Tryz.zeroValue9
  t46 := Tryz.underlying50
  a46 := Tryz.isAgg50
  z46 := Tryz.sizeOf50
  v46 := Tryz.zeroValue50
  t51 := Tryz.underlying95
  a51 := Tryz.isAgg95
  z51 := Tryz.sizeOf95
  v51 := Tryz.zeroValue95
  t146 := Tryz.underlying114
  a146 := Tryz.isAgg114
  z146 := Tryz.sizeOf114
  v146 := Tryz.zeroValue114
  g1 := by kernel_rfl
  i0 := by kernel_rfl
  i3 := by kernel_rfl
  i4 := by kernel_rfl
  i5 := by kernel_rfl
  i9 := by kernel_rfl
  i46 := by kernel_rfl
  i51 := by kernel_rfl
  i146 := by kernel_rfl
  m1 := by kernel_rfl
  s1_3 := fun w h => Go.Proofs.cell_of_shapedOpen_int (zero := #[.int .i64 0]) (t := 3) h (of_decide_eq_true (by kernel_rfl)) (by kernel_rfl) rfl (by kernel_rfl) (by kernel_rfl) Tryz.underlying3 }
open Go.RowKit Go.Lib in
theorem Tryz.strings_Count_shaped (s sub : ByteArray) (w : World) (h : w.ShapedOpen Tryz.prog) (hs : s.size < 4294967281) (h2 : 2 ≤ sub.size) :
    Calls Tryz.prog 51 #[.string s, .string sub] w fun e w' => e = .returned (.int .i64 (Lib.countB s sub)) ∧ w' = w := Any.strings_Count_shaped Tryz.laysM138 s sub w h hs h2
def Tryz.lays206_ren : Go.Shelf.Ren := ⟨fun | 206 => 94 | n => n, fun | 9 => 9 | 4 => 4 | 3 => 3 | n => n, fun | n => n⟩
theorem Tryz.lays206 : Go.Proofs.Lays.n206 Tryz.prog Tryz.lays206_ren := {
  mixed := by kernel_rfl
  f206 := Tryz.func94.trans (congrArg some (by kernel_rfl))
  t3 := Tryz.underlying3
  a3 := Tryz.isAgg3
  z3 := Tryz.sizeOf3
  v3 := Tryz.zeroValue3
  t4 := Tryz.underlying4
  a4 := Tryz.isAgg4
  z4 := Tryz.sizeOf4
  v4 := Tryz.zeroValue4
  t9 := Tryz.underlying9
  a9 := Tryz.isAgg9
  z9 := Tryz.sizeOf9
  v9 := Tryz.zeroValue9 }
open Go.RowKit Go.Lib in
/-- internal/stringslite.HasPrefix (what strings.HasPrefix calls). (LAID: no walk: one application.) -/
theorem Tryz.stringslite_HasPrefix (s p : ByteArray) (w : World) :
    Calls Tryz.prog 94 #[.string s, .string p] w fun e w' => e = .returned (.bool (Lib.hasPrefix s.data.toList p.data.toList)) ∧ w' = w := Any.stringslite_HasPrefix Tryz.lays206 s p w
def Tryz.lays99_ren : Go.Shelf.Ren := ⟨fun | 99 => 75 | 206 => 94 | n => n, fun | 9 => 9 | 4 => 4 | 3 => 3 | n => n, fun | n => n⟩
theorem Tryz.lays99 : Go.Proofs.Lays.n99 Tryz.prog Tryz.lays99_ren := {
  mixed := by kernel_rfl
  f99 := Tryz.func75.trans (congrArg some (by kernel_rfl))
  f206 := Tryz.func94.trans (congrArg some (by kernel_rfl))
  t3 := Tryz.underlying3
  a3 := Tryz.isAgg3
  z3 := Tryz.sizeOf3
  v3 := Tryz.zeroValue3
  t4 := Tryz.underlying4
  a4 := Tryz.isAgg4
  z4 := Tryz.sizeOf4
  v4 := Tryz.zeroValue4
  t9 := Tryz.underlying9
  a9 := Tryz.isAgg9
  z9 := Tryz.sizeOf9
  v9 := Tryz.zeroValue9 }
open Go.RowKit Go.Lib in
/-- strings.HasPrefix: "HasPrefix reports whether the string s begins with prefix.": IT RETURNS 'Lib.hasPrefix s prefix'; the world is as it was. (LAID: no walk: one application.) -/
theorem Tryz.strings_HasPrefix (s p : ByteArray) (w : World) :
    Calls Tryz.prog 75 #[.string s, .string p] w fun e w' => e = .returned (.bool (Lib.hasPrefix s.data.toList p.data.toList)) ∧ w' = w := Any.strings_HasPrefix Tryz.lays99 s p w
open Go.RowKit Go.Lib in
/-- strings.Count at whatever sep that is not empty: the two roads under one statement. (LAID: no walk: one application.) -/
theorem Tryz.strings_Count_any (s sep : ByteArray) (m : Int) (w : World) (hs : s.size < 4294967281) (hm : w.cell? ⟨2, 0, none⟩ = some (.int .i64 m)) (h1 : 1 ≤ sep.size) :
    Calls Tryz.prog 51 #[.string s, .string sep] w fun e w' => e = .returned (.int .i64 (Lib.countB s sep)) ∧ w' = w := Any.strings_Count_any Tryz.lays138 s sep m w hs hm h1
def Tryz.lays221_ren : Go.Shelf.Ren := ⟨fun | 221 => 57 | 268 => 70 | 138 => 51 | 143 => 50 | 195 => 65 | 197 => 54 | 218 => 66 | 219 => 64 | 260 => 69 | 217 => 82 | 225 => 83 | 224 => 84 | 267 => 85 | 266 => 102 | 314 => 103 | n => n, fun | 9 => 9 | 3 => 3 | 31 => 38 | 4 => 4 | 0 => 0 | 105 => 72 | 21 => 21 | 5 => 5 | 46 => 50 | 119 => 79 | 139 => 110 | 138 => 109 | 146 => 114 | 51 => 95 | n => n, fun | 1 => 2 | 3 => 3 | 4 => 4 | n => n⟩
theorem Tryz.lays221 : Go.Proofs.Lays.n221 Tryz.prog Tryz.lays221_ren := {
  mixed := by kernel_rfl
  f138 := Tryz.func51.trans (congrArg some (by kernel_rfl))
  f143 := Tryz.func50.trans (congrArg some (by kernel_rfl))
  f195 := Tryz.func65.trans (congrArg some (by kernel_rfl))
  f197 := Tryz.func54.trans (congrArg some (by kernel_rfl))
  f217 := Tryz.func82.trans (congrArg some (by kernel_rfl))
  f218 := Tryz.func66.trans (congrArg some (by kernel_rfl))
  f219 := Tryz.func64.trans (congrArg some (by kernel_rfl))
  f221 := Tryz.func57.trans (congrArg some (by kernel_rfl))
  f224 := Tryz.func84.trans (congrArg some (by kernel_rfl))
  f225 := Tryz.func83.trans (congrArg some (by kernel_rfl))
  f260 := Tryz.func69.trans (congrArg some (by kernel_rfl))
  f266 := Tryz.func102.trans (congrArg some (by kernel_rfl))
  f267 := Tryz.func85.trans (congrArg some (by kernel_rfl))
  f268 := Tryz.func70.trans (congrArg some (by kernel_rfl))
  f314 := Tryz.func103.trans (congrArg some (by kernel_rfl))
  t0 := Tryz.underlying0
  a0 := Tryz.isAgg0
  z0 := Tryz.sizeOf0
  v0 := Tryz.zeroValue0
  t3 := Tryz.underlying3
  a3 := Tryz.isAgg3
  z3 := Tryz.sizeOf3
  v3 := Tryz.zeroValue3
  t4 := Tryz.underlying4
  a4 := Tryz.isAgg4
  z4 := Tryz.sizeOf4
  v4 := Tryz.zeroValue4
  t5 := Tryz.underlying5
  a5 := Tryz.isAgg5
  z5 := Tryz.sizeOf5
  v5 := Tryz.zeroValue5
  t9 := Tryz.underlying9
  a9 := Tryz.isAgg9
  z9 := Tryz.sizeOf9
  v9 := Tryz.zeroValue9
  t21 := Tryz.underlying21
  a21 := Tryz.isAgg21
  z21 := Tryz.sizeOf21
  v21 := Tryz.zeroValue21
  t31 := Tryz.underlying38
  a31 := Tryz.isAgg38
  z31 := Tryz.sizeOf38
  v31 := Tryz.zeroValue38
  t46 := Tryz.underlying50
  a46 := Tryz.isAgg50
  z46 := Tryz.sizeOf50
  v46 := Tryz.zeroValue50
  t51 := Tryz.underlying95
  a51 := Tryz.isAgg95
  z51 := Tryz.sizeOf95
  v51 := Tryz.zeroValue95
  t105 := Tryz.underlying72
  a105 := Tryz.isAgg72
  z105 := Tryz.sizeOf72
  v105 := Tryz.zeroValue72
  t119 := Tryz.underlying79
  a119 := Tryz.isAgg79
  z119 := Tryz.sizeOf79
  t138 := Tryz.underlying109
  a138 := Tryz.isAgg109
  z138 := Tryz.sizeOf109
  v138 := Tryz.zeroValue109
  t139 := Tryz.underlying110
  a139 := Tryz.isAgg110
  z139 := Tryz.sizeOf110
  v139 := Tryz.zeroValue110
  t146 := Tryz.underlying114
  a146 := Tryz.isAgg114
  z146 := Tryz.sizeOf114
  v146 := Tryz.zeroValue114
  g1 := by kernel_rfl
  g3 := by kernel_rfl
  g4 := by kernel_rfl }
open Go.RowKit Go.Lib in
theorem Tryz.strings_genSplit (s sep : ByteArray) (sv : Nat) (n : Int) (N : Nat) (m : Int) (w : World) (hs : s.size < 4294967281) (hm : w.cell? ⟨2, 0, none⟩ = some (.int .i64 m)) (h1 : 1 ≤ sep.size) (hsv : sv ≤ sep.size) (hn0 : n ≠ 0) (hn63 : n ≤ 9223372036854775807) (hN : (N : Int) = min (if n < 0 then (Lib.countB s sep : Int) + 1 else n) ((s.size : Int) + 1)) :
    Calls Tryz.prog 57 #[.string s, .string sep, .int .i64 sv, .int .i64 n] w fun e w' =>
      e = .returned (.slice (some ⟨w.heap.size, 0, none⟩) (Lib.splitB sep sv (N - 1) s).length N) ∧ w' = w.alloc (.cells (Lib.cellsOf (Lib.splitB sep sv (N - 1) s) N) 9) := Any.strings_genSplit Tryz.lays221 (by kernel_rfl) s sep sv n N m w hs hm h1 hsv hn0 hn63 hN
def Tryz.lays146_ren : Go.Shelf.Ren := ⟨fun | 146 => 39 | 221 => 57 | 268 => 70 | 138 => 51 | 143 => 50 | 195 => 65 | 197 => 54 | 218 => 66 | 219 => 64 | 260 => 69 | 217 => 82 | 225 => 83 | 224 => 84 | 267 => 85 | 266 => 102 | 314 => 103 | n => n, fun | 9 => 9 | 31 => 38 | 3 => 3 | 4 => 4 | 0 => 0 | 105 => 72 | 21 => 21 | 5 => 5 | 46 => 50 | 119 => 79 | 139 => 110 | 138 => 109 | 146 => 114 | 51 => 95 | n => n, fun | 1 => 2 | 3 => 3 | 4 => 4 | n => n⟩
theorem Tryz.lays146 : Go.Proofs.Lays.n146 Tryz.prog Tryz.lays146_ren := {
  mixed := by kernel_rfl
  f138 := Tryz.func51.trans (congrArg some (by kernel_rfl))
  f143 := Tryz.func50.trans (congrArg some (by kernel_rfl))
  f146 := Tryz.func39.trans (congrArg some (by kernel_rfl))
  f195 := Tryz.func65.trans (congrArg some (by kernel_rfl))
  f197 := Tryz.func54.trans (congrArg some (by kernel_rfl))
  f217 := Tryz.func82.trans (congrArg some (by kernel_rfl))
  f218 := Tryz.func66.trans (congrArg some (by kernel_rfl))
  f219 := Tryz.func64.trans (congrArg some (by kernel_rfl))
  f221 := Tryz.func57.trans (congrArg some (by kernel_rfl))
  f224 := Tryz.func84.trans (congrArg some (by kernel_rfl))
  f225 := Tryz.func83.trans (congrArg some (by kernel_rfl))
  f260 := Tryz.func69.trans (congrArg some (by kernel_rfl))
  f266 := Tryz.func102.trans (congrArg some (by kernel_rfl))
  f267 := Tryz.func85.trans (congrArg some (by kernel_rfl))
  f268 := Tryz.func70.trans (congrArg some (by kernel_rfl))
  f314 := Tryz.func103.trans (congrArg some (by kernel_rfl))
  t0 := Tryz.underlying0
  a0 := Tryz.isAgg0
  z0 := Tryz.sizeOf0
  v0 := Tryz.zeroValue0
  t3 := Tryz.underlying3
  a3 := Tryz.isAgg3
  z3 := Tryz.sizeOf3
  v3 := Tryz.zeroValue3
  t4 := Tryz.underlying4
  a4 := Tryz.isAgg4
  z4 := Tryz.sizeOf4
  v4 := Tryz.zeroValue4
  t5 := Tryz.underlying5
  a5 := Tryz.isAgg5
  z5 := Tryz.sizeOf5
  v5 := Tryz.zeroValue5
  t9 := Tryz.underlying9
  a9 := Tryz.isAgg9
  z9 := Tryz.sizeOf9
  v9 := Tryz.zeroValue9
  t21 := Tryz.underlying21
  a21 := Tryz.isAgg21
  z21 := Tryz.sizeOf21
  v21 := Tryz.zeroValue21
  t31 := Tryz.underlying38
  a31 := Tryz.isAgg38
  z31 := Tryz.sizeOf38
  v31 := Tryz.zeroValue38
  t46 := Tryz.underlying50
  a46 := Tryz.isAgg50
  z46 := Tryz.sizeOf50
  v46 := Tryz.zeroValue50
  t51 := Tryz.underlying95
  a51 := Tryz.isAgg95
  z51 := Tryz.sizeOf95
  v51 := Tryz.zeroValue95
  t105 := Tryz.underlying72
  a105 := Tryz.isAgg72
  z105 := Tryz.sizeOf72
  v105 := Tryz.zeroValue72
  t119 := Tryz.underlying79
  a119 := Tryz.isAgg79
  z119 := Tryz.sizeOf79
  t138 := Tryz.underlying109
  a138 := Tryz.isAgg109
  z138 := Tryz.sizeOf109
  v138 := Tryz.zeroValue109
  t139 := Tryz.underlying110
  a139 := Tryz.isAgg110
  z139 := Tryz.sizeOf110
  v139 := Tryz.zeroValue110
  t146 := Tryz.underlying114
  a146 := Tryz.isAgg114
  z146 := Tryz.sizeOf114
  v146 := Tryz.zeroValue114
  g1 := by kernel_rfl
  g3 := by kernel_rfl
  g4 := by kernel_rfl }
open Go.RowKit Go.Lib in
/-- strings.Split. (LAID: no walk: one application.) -/
theorem Tryz.strings_Split (s sep : ByteArray) (m : Int) (w : World) (hs : s.size < 4294967281) (hm : w.cell? ⟨2, 0, none⟩ = some (.int .i64 m)) (h1 : 1 ≤ sep.size) :
    Calls Tryz.prog 39 #[.string s, .string sep] w fun e w' =>
      e = .returned (.slice (some ⟨w.heap.size, 0, none⟩) (Lib.countB s sep + 1) (Lib.countB s sep + 1)) ∧ w' = w.alloc (.cells ((Lib.splitB sep 0 (Lib.countB s sep) s).map Value.string).toArray 9) := Any.strings_Split Tryz.lays146 (by kernel_rfl) s sep m w hs hm h1
def Tryz.lays157_ren : Go.Shelf.Ren := ⟨fun | 157 => 48 | 229 => 61 | 199 => 62 | 261 => 77 | 311 => 95 | 312 => 96 | n => n, fun | 9 => 9 | 31 => 38 | 3 => 3 | 5 => 5 | 4 => 4 | 119 => 79 | 0 => 0 | 40 => 81 | 152 => 92 | 21 => 21 | 154 => 94 | 51 => 95 | 141 => 97 | 196 => 121 | 193 => 118 | 198 => 124 | 49 => 122 | 194 => 119 | 201 => 127 | 226 => 139 | 46 => 50 | 227 => 140 | n => n, fun | 0 => 0 | 6 => 1 | n => n⟩
theorem Tryz.lays157 : Go.Proofs.Lays.n157 Tryz.prog Tryz.lays157_ren := {
  mixed := by kernel_rfl
  f157 := Tryz.func48.trans (congrArg some (by kernel_rfl))
  f199 := Tryz.func62.trans (congrArg some (by kernel_rfl))
  f229 := Tryz.func61.trans (congrArg some (by kernel_rfl))
  f261 := Tryz.func77.trans (congrArg some (by kernel_rfl))
  f311 := Tryz.func95.trans (congrArg some (by kernel_rfl))
  f312 := Tryz.func96.trans (congrArg some (by kernel_rfl))
  t0 := Tryz.underlying0
  a0 := Tryz.isAgg0
  z0 := Tryz.sizeOf0
  v0 := Tryz.zeroValue0
  t3 := Tryz.underlying3
  a3 := Tryz.isAgg3
  z3 := Tryz.sizeOf3
  v3 := Tryz.zeroValue3
  t4 := Tryz.underlying4
  a4 := Tryz.isAgg4
  z4 := Tryz.sizeOf4
  v4 := Tryz.zeroValue4
  t5 := Tryz.underlying5
  a5 := Tryz.isAgg5
  z5 := Tryz.sizeOf5
  v5 := Tryz.zeroValue5
  t9 := Tryz.underlying9
  a9 := Tryz.isAgg9
  z9 := Tryz.sizeOf9
  v9 := Tryz.zeroValue9
  t21 := Tryz.underlying21
  a21 := Tryz.isAgg21
  z21 := Tryz.sizeOf21
  v21 := Tryz.zeroValue21
  t31 := Tryz.underlying38
  a31 := Tryz.isAgg38
  z31 := Tryz.sizeOf38
  v31 := Tryz.zeroValue38
  t40 := Tryz.underlying81
  a40 := Tryz.isAgg81
  z40 := Tryz.sizeOf81
  v40 := Tryz.zeroValue81
  t46 := Tryz.underlying50
  a46 := Tryz.isAgg50
  z46 := Tryz.sizeOf50
  v46 := Tryz.zeroValue50
  t49 := Tryz.underlying122
  a49 := Tryz.isAgg122
  z49 := Tryz.sizeOf122
  v49 := Tryz.zeroValue122
  t51 := Tryz.underlying95
  a51 := Tryz.isAgg95
  z51 := Tryz.sizeOf95
  v51 := Tryz.zeroValue95
  t119 := Tryz.underlying79
  a119 := Tryz.isAgg79
  z119 := Tryz.sizeOf79
  t141 := Tryz.underlying97
  a141 := Tryz.isAgg97
  z141 := Tryz.sizeOf97
  v141 := Tryz.zeroValue97
  t152 := Tryz.underlying92
  a152 := Tryz.isAgg92
  z152 := Tryz.sizeOf92
  v152 := Tryz.zeroValue92
  t154 := Tryz.underlying94
  a154 := Tryz.isAgg94
  z154 := Tryz.sizeOf94
  v154 := Tryz.zeroValue94
  t193 := Tryz.underlying118
  a193 := Tryz.isAgg118
  z193 := Tryz.sizeOf118
  v193 := Tryz.zeroValue118
  t194 := Tryz.underlying119
  a194 := Tryz.isAgg119
  z194 := Tryz.sizeOf119
  v194 := Tryz.zeroValue119
  t196 := Tryz.underlying121
  a196 := Tryz.isAgg121
  z196 := Tryz.sizeOf121
  v196 := Tryz.zeroValue121
  t198 := Tryz.underlying124
  a198 := Tryz.isAgg124
  z198 := Tryz.sizeOf124
  v198 := Tryz.zeroValue124
  t201 := Tryz.underlying127
  a201 := Tryz.isAgg127
  z201 := Tryz.sizeOf127
  v201 := Tryz.zeroValue127
  t226 := Tryz.underlying139
  a226 := Tryz.isAgg139
  z226 := Tryz.sizeOf139
  v226 := Tryz.zeroValue139
  t227 := Tryz.underlying140
  a227 := Tryz.isAgg140
  z227 := Tryz.sizeOf140
  v227 := Tryz.zeroValue140
  g0 := by kernel_rfl
  g6 := by kernel_rfl }
open Go.RowKit Go.Lib in
/-- strings.Fields, the table by 'Lib.TabIs' (as strings.TrimSpace's contract). 'hg': the table's number, by its name: at a dump 'by kernel_rfl'. (LAID: no walk: one application.) -/
theorem Tryz.strings_Fields (s : ByteArray) (w : World) (hs : s.size < 4294967281) (hascii : ∀ (j : Nat) b, s.data.toList[j]? = some b → b.toNat < 128) (htab : Lib.TabIs Tryz.prog w "strings.asciiSpace" .u8 Lib.asciiSpaceTab) :
    Calls Tryz.prog 48 #[.string s] w fun e w' =>
      e = .returned (.slice (some ⟨w.heap.size, 0, none⟩) (Lib.fields s.data.toList).length (Lib.fields s.data.toList).length) ∧ w' = w.alloc (.cells ((Lib.fields s.data.toList).map fun l => Value.string ⟨l.toArray⟩).toArray 9) := Any.strings_Fields Tryz.lays157 (by kernel_rfl) (by kernel_rfl) s w hs hascii htab
def Tryz.lays154_ren : Go.Shelf.Ren := ⟨fun | 154 => 36 | 138 => 51 | 165 => 52 | 143 => 50 | 166 => 53 | 197 => 54 | 169 => 55 | 195 => 65 | 218 => 66 | 240 => 67 | 241 => 68 | 219 => 64 | 260 => 69 | 276 => 86 | 277 => 87 | 217 => 82 | 225 => 83 | 224 => 84 | 267 => 85 | 266 => 102 | 314 => 103 | n => n, fun | 9 => 9 | 3 => 3 | 4 => 4 | 72 => 66 | 0 => 0 | 76 => 70 | 105 => 72 | 21 => 21 | 5 => 5 | 70 => 64 | 20 => 20 | 37 => 25 | 75 => 69 | 127 => 84 | 164 => 105 | 46 => 50 | 119 => 79 | 139 => 110 | 138 => 109 | 146 => 114 | 51 => 95 | 80 => 74 | n => n, fun | 1 => 2 | 3 => 3 | 4 => 4 | n => n⟩
theorem Tryz.lays154 : Go.Proofs.Lays.n154 Tryz.prog Tryz.lays154_ren := {
  mixed := by kernel_rfl
  f138 := Tryz.func51.trans (congrArg some (by kernel_rfl))
  f143 := Tryz.func50.trans (congrArg some (by kernel_rfl))
  f154 := Tryz.func36.trans (congrArg some (by kernel_rfl))
  f165 := Tryz.func52.trans (congrArg some (by kernel_rfl))
  f166 := Tryz.func53.trans (congrArg some (by kernel_rfl))
  f169 := Tryz.func55.trans (congrArg some (by kernel_rfl))
  f195 := Tryz.func65.trans (congrArg some (by kernel_rfl))
  f197 := Tryz.func54.trans (congrArg some (by kernel_rfl))
  f217 := Tryz.func82.trans (congrArg some (by kernel_rfl))
  f218 := Tryz.func66.trans (congrArg some (by kernel_rfl))
  f219 := Tryz.func64.trans (congrArg some (by kernel_rfl))
  f224 := Tryz.func84.trans (congrArg some (by kernel_rfl))
  f225 := Tryz.func83.trans (congrArg some (by kernel_rfl))
  f240 := Tryz.func67.trans (congrArg some (by kernel_rfl))
  f241 := Tryz.func68.trans (congrArg some (by kernel_rfl))
  f260 := Tryz.func69.trans (congrArg some (by kernel_rfl))
  f266 := Tryz.func102.trans (congrArg some (by kernel_rfl))
  f267 := Tryz.func85.trans (congrArg some (by kernel_rfl))
  f276 := Tryz.func86.trans (congrArg some (by kernel_rfl))
  f277 := Tryz.func87.trans (congrArg some (by kernel_rfl))
  f314 := Tryz.func103.trans (congrArg some (by kernel_rfl))
  t0 := Tryz.underlying0
  a0 := Tryz.isAgg0
  z0 := Tryz.sizeOf0
  v0 := Tryz.zeroValue0
  t3 := Tryz.underlying3
  a3 := Tryz.isAgg3
  z3 := Tryz.sizeOf3
  v3 := Tryz.zeroValue3
  t4 := Tryz.underlying4
  a4 := Tryz.isAgg4
  z4 := Tryz.sizeOf4
  v4 := Tryz.zeroValue4
  t5 := Tryz.underlying5
  a5 := Tryz.isAgg5
  z5 := Tryz.sizeOf5
  v5 := Tryz.zeroValue5
  t9 := Tryz.underlying9
  a9 := Tryz.isAgg9
  z9 := Tryz.sizeOf9
  v9 := Tryz.zeroValue9
  t20 := Tryz.underlying20
  a20 := Tryz.isAgg20
  z20 := Tryz.sizeOf20
  v20 := Tryz.zeroValue20
  t21 := Tryz.underlying21
  a21 := Tryz.isAgg21
  z21 := Tryz.sizeOf21
  v21 := Tryz.zeroValue21
  t37 := Tryz.underlying25
  a37 := Tryz.isAgg25
  z37 := Tryz.sizeOf25
  v37 := Tryz.zeroValue25
  t46 := Tryz.underlying50
  a46 := Tryz.isAgg50
  z46 := Tryz.sizeOf50
  v46 := Tryz.zeroValue50
  t51 := Tryz.underlying95
  a51 := Tryz.isAgg95
  z51 := Tryz.sizeOf95
  v51 := Tryz.zeroValue95
  t70 := Tryz.underlying64
  a70 := Tryz.isAgg64
  z70 := Tryz.sizeOf64
  v70 := Tryz.zeroValue64
  t72 := Tryz.underlying66
  a72 := Tryz.isAgg66
  z72 := Tryz.sizeOf66
  v72 := Tryz.zeroValue66
  t75 := Tryz.underlying69
  a75 := Tryz.isAgg69
  z75 := Tryz.sizeOf69
  v75 := Tryz.zeroValue69
  t76 := Tryz.underlying70
  a76 := Tryz.isAgg70
  z76 := Tryz.sizeOf70
  v76 := Tryz.zeroValue70
  t105 := Tryz.underlying72
  a105 := Tryz.isAgg72
  z105 := Tryz.sizeOf72
  v105 := Tryz.zeroValue72
  t119 := Tryz.underlying79
  a119 := Tryz.isAgg79
  z119 := Tryz.sizeOf79
  t127 := Tryz.underlying84
  a127 := Tryz.isAgg84
  z127 := Tryz.sizeOf84
  v127 := Tryz.zeroValue84
  t138 := Tryz.underlying109
  a138 := Tryz.isAgg109
  z138 := Tryz.sizeOf109
  v138 := Tryz.zeroValue109
  t139 := Tryz.underlying110
  a139 := Tryz.isAgg110
  z139 := Tryz.sizeOf110
  v139 := Tryz.zeroValue110
  t146 := Tryz.underlying114
  a146 := Tryz.isAgg114
  z146 := Tryz.sizeOf114
  v146 := Tryz.zeroValue114
  t164 := Tryz.underlying105
  a164 := Tryz.isAgg105
  z164 := Tryz.sizeOf105
  v164 := Tryz.zeroValue105
  g1 := by kernel_rfl
  g3 := by kernel_rfl
  g4 := by kernel_rfl }
theorem Tryz.Builder_Extra_154 : Builder.Extra Tryz.prog Tryz.lays154_ren := {
  sizeBuilder := by kernel_rfl
  liesBuilder := by kernel_rfl
  t5 := Tryz.underlying5
  a5 := Tryz.isAgg5
  z5 := Tryz.sizeOf5
  v5 := Tryz.zeroValue5
  infoByte := by kernel_rfl
  cellsByte := by kernel_rfl
  sizeByte := by kernel_rfl
  neB5 := by decide }
open Go.RowKit Go.Lib in
/-- WHERE SOMETHING IS REPLACED: old is not new, n is not 0, there is an instance. (LAID: no walk: one application.) -/
theorem Tryz.strings_Replace_some (s old new : ByteArray) (n : Int) (m : Int) (w : World) (hs : s.size < 4294967281) (hm : w.cell? ⟨2, 0, none⟩ = some (.int .i64 m)) (h1 : 1 ≤ old.size) (hne : old ≠ new) (hn0 : n ≠ 0) (hc0 : Lib.countB s old ≠ 0) (hlen : s.size + Lib.countB s old * new.size ≤ 140737488355328) :
    Calls Tryz.prog 36 #[.string s, .string old, .string new, .int .i64 n] w fun e w' =>
      e = .returned (.string ⟨(Lib.replaceK old.data.toList new.data.toList (Lib.replaceNum s.data.toList old.data.toList n) s.data.toList).toArray⟩) ∧ Below w.heap.size w w' := Any.strings_Replace_some Tryz.lays154 Tryz.Builder_Extra_154 s old new n m w hs hm h1 hne hn0 hc0 hlen
open Go.RowKit Go.Lib in
/-- 'if old == new || n == 0 { return s }'. (LAID: no walk: one application.) -/
theorem Tryz.strings_Replace_none (s old new : ByteArray) (n : Int) (w : World) (h : old = new ∨ n = 0) :
    Calls Tryz.prog 36 #[.string s, .string old, .string new, .int .i64 n] w fun e w' => e = .returned (.string s) ∧ w' = w := Any.strings_Replace_none Tryz.lays154 s old new n w h
open Go.RowKit Go.Lib in
/-- 'if m := Count(s, old); m == 0 { return s }'. (LAID: no walk: one application.) -/
theorem Tryz.strings_Replace_absent (s old new : ByteArray) (n : Int) (m : Int) (w : World) (hs : s.size < 4294967281) (hm : w.cell? ⟨2, 0, none⟩ = some (.int .i64 m)) (h1 : 1 ≤ old.size) (hne : old ≠ new) (hn0 : n ≠ 0) (hc0 : Lib.countB s old = 0) :
    Calls Tryz.prog 36 #[.string s, .string old, .string new, .int .i64 n] w fun e w' => e = .returned (.string s) ∧ w' = w := Any.strings_Replace_absent Tryz.lays154 s old new n m w hs hm h1 hne hn0 hc0
open Go.RowKit Go.Lib in
/-- strings.Replace: "Replace returns a copy of the string s with the first n non-overlapping instances of old replaced by new. .. If n < 0, there is no limit on the number of replacements.": AT AN old THAT IS NOT EMPTY: IT RETURNS 'Lib.replace s old new n'. Below the heap's end the world is as it was. IT ASKS, as strings.Index's contract: 'len(s) < 4294967281', 'hm'; and that what comes out has room: 'len(s) + Count(s, old) * len(new) ≤ 2^47'. (LAID: no walk: one application.) -/
theorem Tryz.strings_Replace (s old new : ByteArray) (n : Int) (m : Int) (w : World) (hs : s.size < 4294967281) (hm : w.cell? ⟨2, 0, none⟩ = some (.int .i64 m)) (h1 : 1 ≤ old.size) (hlen : s.size + Lib.countB s old * new.size ≤ 140737488355328) :
    Calls Tryz.prog 36 #[.string s, .string old, .string new, .int .i64 n] w fun e w' =>
      e = .returned (.string ⟨(Lib.replace s.data.toList old.data.toList new.data.toList n).toArray⟩) ∧ Below w.heap.size w w' := Any.strings_Replace Tryz.lays154 Tryz.Builder_Extra_154 s old new n m w hs hm h1 hlen
def Tryz.lays155_ren : Go.Shelf.Ren := ⟨fun | 155 => 37 | 154 => 36 | 138 => 51 | 165 => 52 | 143 => 50 | 166 => 53 | 197 => 54 | 169 => 55 | 195 => 65 | 218 => 66 | 240 => 67 | 241 => 68 | 219 => 64 | 260 => 69 | 276 => 86 | 277 => 87 | 217 => 82 | 225 => 83 | 224 => 84 | 267 => 85 | 266 => 102 | 314 => 103 | n => n, fun | 9 => 9 | 3 => 3 | 4 => 4 | 72 => 66 | 0 => 0 | 76 => 70 | 105 => 72 | 21 => 21 | 5 => 5 | 70 => 64 | 20 => 20 | 37 => 25 | 75 => 69 | 127 => 84 | 164 => 105 | 46 => 50 | 119 => 79 | 139 => 110 | 138 => 109 | 146 => 114 | 51 => 95 | 80 => 74 | n => n, fun | 1 => 2 | 3 => 3 | 4 => 4 | n => n⟩
theorem Tryz.lays155 : Go.Proofs.Lays.n155 Tryz.prog Tryz.lays155_ren := {
  mixed := by kernel_rfl
  f138 := Tryz.func51.trans (congrArg some (by kernel_rfl))
  f143 := Tryz.func50.trans (congrArg some (by kernel_rfl))
  f154 := Tryz.func36.trans (congrArg some (by kernel_rfl))
  f155 := Tryz.func37.trans (congrArg some (by kernel_rfl))
  f165 := Tryz.func52.trans (congrArg some (by kernel_rfl))
  f166 := Tryz.func53.trans (congrArg some (by kernel_rfl))
  f169 := Tryz.func55.trans (congrArg some (by kernel_rfl))
  f195 := Tryz.func65.trans (congrArg some (by kernel_rfl))
  f197 := Tryz.func54.trans (congrArg some (by kernel_rfl))
  f217 := Tryz.func82.trans (congrArg some (by kernel_rfl))
  f218 := Tryz.func66.trans (congrArg some (by kernel_rfl))
  f219 := Tryz.func64.trans (congrArg some (by kernel_rfl))
  f224 := Tryz.func84.trans (congrArg some (by kernel_rfl))
  f225 := Tryz.func83.trans (congrArg some (by kernel_rfl))
  f240 := Tryz.func67.trans (congrArg some (by kernel_rfl))
  f241 := Tryz.func68.trans (congrArg some (by kernel_rfl))
  f260 := Tryz.func69.trans (congrArg some (by kernel_rfl))
  f266 := Tryz.func102.trans (congrArg some (by kernel_rfl))
  f267 := Tryz.func85.trans (congrArg some (by kernel_rfl))
  f276 := Tryz.func86.trans (congrArg some (by kernel_rfl))
  f277 := Tryz.func87.trans (congrArg some (by kernel_rfl))
  f314 := Tryz.func103.trans (congrArg some (by kernel_rfl))
  t0 := Tryz.underlying0
  a0 := Tryz.isAgg0
  z0 := Tryz.sizeOf0
  v0 := Tryz.zeroValue0
  t3 := Tryz.underlying3
  a3 := Tryz.isAgg3
  z3 := Tryz.sizeOf3
  v3 := Tryz.zeroValue3
  t4 := Tryz.underlying4
  a4 := Tryz.isAgg4
  z4 := Tryz.sizeOf4
  v4 := Tryz.zeroValue4
  t5 := Tryz.underlying5
  a5 := Tryz.isAgg5
  z5 := Tryz.sizeOf5
  v5 := Tryz.zeroValue5
  t9 := Tryz.underlying9
  a9 := Tryz.isAgg9
  z9 := Tryz.sizeOf9
  v9 := Tryz.zeroValue9
  t20 := Tryz.underlying20
  a20 := Tryz.isAgg20
  z20 := Tryz.sizeOf20
  v20 := Tryz.zeroValue20
  t21 := Tryz.underlying21
  a21 := Tryz.isAgg21
  z21 := Tryz.sizeOf21
  v21 := Tryz.zeroValue21
  t37 := Tryz.underlying25
  a37 := Tryz.isAgg25
  z37 := Tryz.sizeOf25
  v37 := Tryz.zeroValue25
  t46 := Tryz.underlying50
  a46 := Tryz.isAgg50
  z46 := Tryz.sizeOf50
  v46 := Tryz.zeroValue50
  t51 := Tryz.underlying95
  a51 := Tryz.isAgg95
  z51 := Tryz.sizeOf95
  v51 := Tryz.zeroValue95
  t70 := Tryz.underlying64
  a70 := Tryz.isAgg64
  z70 := Tryz.sizeOf64
  v70 := Tryz.zeroValue64
  t72 := Tryz.underlying66
  a72 := Tryz.isAgg66
  z72 := Tryz.sizeOf66
  v72 := Tryz.zeroValue66
  t75 := Tryz.underlying69
  a75 := Tryz.isAgg69
  z75 := Tryz.sizeOf69
  v75 := Tryz.zeroValue69
  t76 := Tryz.underlying70
  a76 := Tryz.isAgg70
  z76 := Tryz.sizeOf70
  v76 := Tryz.zeroValue70
  t105 := Tryz.underlying72
  a105 := Tryz.isAgg72
  z105 := Tryz.sizeOf72
  v105 := Tryz.zeroValue72
  t119 := Tryz.underlying79
  a119 := Tryz.isAgg79
  z119 := Tryz.sizeOf79
  t127 := Tryz.underlying84
  a127 := Tryz.isAgg84
  z127 := Tryz.sizeOf84
  v127 := Tryz.zeroValue84
  t138 := Tryz.underlying109
  a138 := Tryz.isAgg109
  z138 := Tryz.sizeOf109
  v138 := Tryz.zeroValue109
  t139 := Tryz.underlying110
  a139 := Tryz.isAgg110
  z139 := Tryz.sizeOf110
  v139 := Tryz.zeroValue110
  t146 := Tryz.underlying114
  a146 := Tryz.isAgg114
  z146 := Tryz.sizeOf114
  v146 := Tryz.zeroValue114
  t164 := Tryz.underlying105
  a164 := Tryz.isAgg105
  z164 := Tryz.sizeOf105
  v164 := Tryz.zeroValue105
  g1 := by kernel_rfl
  g3 := by kernel_rfl
  g4 := by kernel_rfl }
theorem Tryz.Builder_Extra_155 : Builder.Extra Tryz.prog Tryz.lays155_ren := {
  sizeBuilder := by kernel_rfl
  liesBuilder := by kernel_rfl
  t5 := Tryz.underlying5
  a5 := Tryz.isAgg5
  z5 := Tryz.sizeOf5
  v5 := Tryz.zeroValue5
  infoByte := by kernel_rfl
  cellsByte := by kernel_rfl
  sizeByte := by kernel_rfl
  neB5 := by decide }
open Go.RowKit Go.Lib in
/-- strings.ReplaceAll: "ReplaceAll returns a copy of the string s with all non-overlapping instances of old replaced by new.": AT AN old THAT IS NOT EMPTY: 'Lib.replaceAll s old new'. (LAID: no walk: one application.) -/
theorem Tryz.strings_ReplaceAll (s old new : ByteArray) (m : Int) (w : World) (hs : s.size < 4294967281) (hm : w.cell? ⟨2, 0, none⟩ = some (.int .i64 m)) (h1 : 1 ≤ old.size) (hlen : s.size + Lib.countB s old * new.size ≤ 140737488355328) :
    Calls Tryz.prog 37 #[.string s, .string old, .string new] w fun e w' =>
      e = .returned (.string ⟨(Lib.replaceAll s.data.toList old.data.toList new.data.toList).toArray⟩) ∧ Below w.heap.size w w' := Any.strings_ReplaceAll Tryz.lays155 Tryz.Builder_Extra_155 s old new m w hs hm h1 hlen
def Tryz.laysM146_ren : Go.Shelf.Ren := ⟨fun | 146 => 39 | 221 => 57 | 268 => 70 | 138 => 51 | 143 => 50 | 195 => 65 | 197 => 54 | 218 => 66 | 219 => 64 | 260 => 69 | 217 => 82 | 225 => 83 | 224 => 84 | 267 => 85 | 266 => 102 | 314 => 103 | n => n, fun | 9 => 9 | 31 => 38 | 3 => 3 | 4 => 4 | 0 => 0 | 105 => 72 | 21 => 21 | 5 => 5 | 46 => 50 | 119 => 79 | 139 => 110 | 138 => 109 | 146 => 114 | 51 => 95 | n => n, fun | 1 => 2 | 3 => 3 | 4 => 4 | n => n⟩
theorem Tryz.laysM146 : Go.Proofs.LaysM.n146 Tryz.prog Tryz.laysM146_ren := {
  mixed := by kernel_rfl
  f138 := Tryz.func51.trans (congrArg some (by kernel_rfl))
  f143 := Tryz.func50.trans (congrArg some (by kernel_rfl))
  f146 := Tryz.func39.trans (congrArg some (by kernel_rfl))
  f195 := Tryz.func65.trans (congrArg some (by kernel_rfl))
  f197 := Tryz.func54.trans (congrArg some (by kernel_rfl))
  f217 := Tryz.func82.trans (congrArg some (by kernel_rfl))
  f218 := Tryz.func66.trans (congrArg some (by kernel_rfl))
  f219 := Tryz.func64.trans (congrArg some (by kernel_rfl))
  f221 := Tryz.func57.trans (congrArg some (by kernel_rfl))
  f224 := Tryz.func84.trans (congrArg some (by kernel_rfl))
  f225 := Tryz.func83.trans (congrArg some (by kernel_rfl))
  f260 := Tryz.func69.trans (congrArg some (by kernel_rfl))
  f266 := Tryz.func102.trans (congrArg some (by kernel_rfl))
  f267 := Tryz.func85.trans (congrArg some (by kernel_rfl))
  f268 := Tryz.func70.trans (congrArg some (by kernel_rfl))
  f314 := Tryz.func103.trans (congrArg some (by kernel_rfl))
  t0 := Tryz.underlying0
  a0 := Tryz.isAgg0
  z0 := Tryz.sizeOf0
  v0 := Tryz.zeroValue0
  t3 := Tryz.underlying3
  a3 := Tryz.isAgg3
  z3 := Tryz.sizeOf3
  v3 := Tryz.zeroValue3
  t4 := Tryz.underlying4
  a4 := Tryz.isAgg4
  z4 := Tryz.sizeOf4
  v4 := Tryz.zeroValue4
  t5 := Tryz.underlying5
  a5 := Tryz.isAgg5
  z5 := Tryz.sizeOf5
  v5 := Tryz.zeroValue5
  t9 := Tryz.underlying9
  a9 := Tryz.isAgg9
  z9 := Tryz.sizeOf9
  v9 := Tryz.zeroValue9
  t21 := Tryz.underlying21
  a21 := Tryz.isAgg21
  z21 := Tryz.sizeOf21
  v21 := Tryz.zeroValue21
  t31 := Tryz.underlying38
  a31 := Tryz.isAgg38
  z31 := Tryz.sizeOf38
  v31 := Tryz.zeroValue38
  t46 := Tryz.underlying50
  a46 := Tryz.isAgg50
  z46 := Tryz.sizeOf50
  v46 := Tryz.zeroValue50
  t51 := Tryz.underlying95
  a51 := Tryz.isAgg95
  z51 := Tryz.sizeOf95
  v51 := Tryz.zeroValue95
  t105 := Tryz.underlying72
  a105 := Tryz.isAgg72
  z105 := Tryz.sizeOf72
  v105 := Tryz.zeroValue72
  t119 := Tryz.underlying79
  a119 := Tryz.isAgg79
  z119 := Tryz.sizeOf79
  t138 := Tryz.underlying109
  a138 := Tryz.isAgg109
  z138 := Tryz.sizeOf109
  v138 := Tryz.zeroValue109
  t139 := Tryz.underlying110
  a139 := Tryz.isAgg110
  z139 := Tryz.sizeOf110
  v139 := Tryz.zeroValue110
  t146 := Tryz.underlying114
  a146 := Tryz.isAgg114
  z146 := Tryz.sizeOf114
  v146 := Tryz.zeroValue114
  g1 := by kernel_rfl
  g3 := by kernel_rfl
  g4 := by kernel_rfl
  i0 := by kernel_rfl
  i3 := by kernel_rfl
  i4 := by kernel_rfl
  i5 := by kernel_rfl
  i9 := by kernel_rfl
  i21 := by kernel_rfl
  i31 := by kernel_rfl
  i46 := by kernel_rfl
  i51 := by kernel_rfl
  i105 := by kernel_rfl
  i138 := by kernel_rfl
  i139 := by kernel_rfl
  i146 := by kernel_rfl
  m1 := by kernel_rfl
  s1_3 := fun w h => Go.Proofs.cell_of_shapedOpen_int (zero := #[.int .i64 0]) (t := 3) h (of_decide_eq_true (by kernel_rfl)) (by kernel_rfl) rfl (by kernel_rfl) (by kernel_rfl) Tryz.underlying3
  m3 := by kernel_rfl
  m4 := by kernel_rfl }
open Go.RowKit Go.Lib in
/-- strings.Split, sep not empty. (LAID: no walk: one application.) -/
theorem Tryz.strings_Split_shaped (s sep : ByteArray) (w : World) (h : w.ShapedOpen Tryz.prog) (hs : s.size < 4294967281) (h1 : 1 ≤ sep.size) :
    Calls Tryz.prog 39 #[.string s, .string sep] w fun e w' =>
      e = .returned (.slice (some ⟨w.heap.size, 0, none⟩) (Lib.countB s sep + 1) (Lib.countB s sep + 1)) ∧ w' = w.alloc (.cells ((Lib.splitB sep 0 (Lib.countB s sep) s).map Value.string).toArray 9) := Any.strings_Split_shaped Tryz.laysM146 s sep w h hs h1
def Tryz.laysM157_ren : Go.Shelf.Ren := ⟨fun | 157 => 48 | 229 => 61 | 199 => 62 | 261 => 77 | 311 => 95 | 312 => 96 | n => n, fun | 9 => 9 | 31 => 38 | 3 => 3 | 5 => 5 | 4 => 4 | 119 => 79 | 0 => 0 | 40 => 81 | 152 => 92 | 21 => 21 | 154 => 94 | 51 => 95 | 141 => 97 | 196 => 121 | 193 => 118 | 198 => 124 | 49 => 122 | 194 => 119 | 201 => 127 | 226 => 139 | 46 => 50 | 227 => 140 | n => n, fun | 0 => 0 | 6 => 1 | n => n⟩
theorem Tryz.laysM157 : Go.Proofs.LaysM.n157 Tryz.prog Tryz.laysM157_ren := {
  mixed := by kernel_rfl
  f157 := Tryz.func48.trans (congrArg some (by kernel_rfl))
  f199 := Tryz.func62.trans (congrArg some (by kernel_rfl))
  f229 := Tryz.func61.trans (congrArg some (by kernel_rfl))
  f261 := Tryz.func77.trans (congrArg some (by kernel_rfl))
  f311 := Tryz.func95.trans (congrArg some (by kernel_rfl))
  f312 := Tryz.func96.trans (congrArg some (by kernel_rfl))
  t0 := Tryz.underlying0
  a0 := Tryz.isAgg0
  z0 := Tryz.sizeOf0
  v0 := Tryz.zeroValue0
  t3 := Tryz.underlying3
  a3 := Tryz.isAgg3
  z3 := Tryz.sizeOf3
  v3 := Tryz.zeroValue3
  t4 := Tryz.underlying4
  a4 := Tryz.isAgg4
  z4 := Tryz.sizeOf4
  v4 := Tryz.zeroValue4
  t5 := Tryz.underlying5
  a5 := Tryz.isAgg5
  z5 := Tryz.sizeOf5
  v5 := Tryz.zeroValue5
  t9 := Tryz.underlying9
  a9 := Tryz.isAgg9
  z9 := Tryz.sizeOf9
  v9 := Tryz.zeroValue9
  t21 := Tryz.underlying21
  a21 := Tryz.isAgg21
  z21 := Tryz.sizeOf21
  v21 := Tryz.zeroValue21
  t31 := Tryz.underlying38
  a31 := Tryz.isAgg38
  z31 := Tryz.sizeOf38
  v31 := Tryz.zeroValue38
  t40 := Tryz.underlying81
  a40 := Tryz.isAgg81
  z40 := Tryz.sizeOf81
  v40 := Tryz.zeroValue81
  t46 := Tryz.underlying50
  a46 := Tryz.isAgg50
  z46 := Tryz.sizeOf50
  v46 := Tryz.zeroValue50
  t49 := Tryz.underlying122
  a49 := Tryz.isAgg122
  z49 := Tryz.sizeOf122
  v49 := Tryz.zeroValue122
  t51 := Tryz.underlying95
  a51 := Tryz.isAgg95
  z51 := Tryz.sizeOf95
  v51 := Tryz.zeroValue95
  t119 := Tryz.underlying79
  a119 := Tryz.isAgg79
  z119 := Tryz.sizeOf79
  t141 := Tryz.underlying97
  a141 := Tryz.isAgg97
  z141 := Tryz.sizeOf97
  v141 := Tryz.zeroValue97
  t152 := Tryz.underlying92
  a152 := Tryz.isAgg92
  z152 := Tryz.sizeOf92
  v152 := Tryz.zeroValue92
  t154 := Tryz.underlying94
  a154 := Tryz.isAgg94
  z154 := Tryz.sizeOf94
  v154 := Tryz.zeroValue94
  t193 := Tryz.underlying118
  a193 := Tryz.isAgg118
  z193 := Tryz.sizeOf118
  v193 := Tryz.zeroValue118
  t194 := Tryz.underlying119
  a194 := Tryz.isAgg119
  z194 := Tryz.sizeOf119
  v194 := Tryz.zeroValue119
  t196 := Tryz.underlying121
  a196 := Tryz.isAgg121
  z196 := Tryz.sizeOf121
  v196 := Tryz.zeroValue121
  t198 := Tryz.underlying124
  a198 := Tryz.isAgg124
  z198 := Tryz.sizeOf124
  v198 := Tryz.zeroValue124
  t201 := Tryz.underlying127
  a201 := Tryz.isAgg127
  z201 := Tryz.sizeOf127
  v201 := Tryz.zeroValue127
  t226 := Tryz.underlying139
  a226 := Tryz.isAgg139
  z226 := Tryz.sizeOf139
  v226 := Tryz.zeroValue139
  t227 := Tryz.underlying140
  a227 := Tryz.isAgg140
  z227 := Tryz.sizeOf140
  v227 := Tryz.zeroValue140
  g0 := by kernel_rfl
  g6 := by kernel_rfl
  i0 := by kernel_rfl
  i3 := by kernel_rfl
  i4 := by kernel_rfl
  i5 := by kernel_rfl
  i9 := by kernel_rfl
  i21 := by kernel_rfl
  i31 := by kernel_rfl
  i40 := by kernel_rfl
  i46 := by kernel_rfl
  i49 := by kernel_rfl
  i51 := by kernel_rfl
  i141 := by kernel_rfl
  i152 := by kernel_rfl
  i154 := by kernel_rfl
  i193 := by kernel_rfl
  i194 := by kernel_rfl
  i196 := by kernel_rfl
  i198 := by kernel_rfl
  i201 := by kernel_rfl
  i226 := by kernel_rfl
  i227 := by kernel_rfl
  m0 := by kernel_rfl
  m6 := by kernel_rfl }
open Go.RowKit Go.Lib in
/-- strings.Fields on ASCII bytes. (The table: 'Lib.TabIs', as strings.TrimSpace's contract asks it.) (LAID: no walk: one application.) -/
theorem Tryz.strings_Fields_laid (s : ByteArray) (w : World) (hs : s.size < 4294967281) (hascii : ∀ (j : Nat) b, s.data.toList[j]? = some b → b.toNat < 128) (htab : Lib.TabIs Tryz.prog w "strings.asciiSpace" .u8 Lib.asciiSpaceTab) :
    Calls Tryz.prog 48 #[.string s] w fun e w' =>
      e = .returned (.slice (some ⟨w.heap.size, 0, none⟩) (Lib.fields s.data.toList).length (Lib.fields s.data.toList).length) ∧ w' = w.alloc (.cells ((Lib.fields s.data.toList).map fun l => Value.string ⟨l.toArray⟩).toArray 9) := Any.strings_Fields_laid Tryz.laysM157 s w hs hascii htab
def Tryz.laysM154_ren : Go.Shelf.Ren := ⟨fun | 154 => 36 | 138 => 51 | 165 => 52 | 143 => 50 | 166 => 53 | 197 => 54 | 169 => 55 | 195 => 65 | 218 => 66 | 240 => 67 | 241 => 68 | 219 => 64 | 260 => 69 | 276 => 86 | 277 => 87 | 217 => 82 | 225 => 83 | 224 => 84 | 267 => 85 | 266 => 102 | 314 => 103 | n => n, fun | 9 => 9 | 3 => 3 | 4 => 4 | 72 => 66 | 0 => 0 | 76 => 70 | 105 => 72 | 21 => 21 | 5 => 5 | 70 => 64 | 20 => 20 | 37 => 25 | 75 => 69 | 127 => 84 | 164 => 105 | 46 => 50 | 119 => 79 | 139 => 110 | 138 => 109 | 146 => 114 | 51 => 95 | 80 => 74 | n => n, fun | 1 => 2 | 3 => 3 | 4 => 4 | n => n⟩
theorem Tryz.laysM154 : Go.Proofs.LaysM.n154 Tryz.prog Tryz.laysM154_ren := {
  mixed := by kernel_rfl
  f138 := Tryz.func51.trans (congrArg some (by kernel_rfl))
  f143 := Tryz.func50.trans (congrArg some (by kernel_rfl))
  f154 := Tryz.func36.trans (congrArg some (by kernel_rfl))
  f165 := Tryz.func52.trans (congrArg some (by kernel_rfl))
  f166 := Tryz.func53.trans (congrArg some (by kernel_rfl))
  f169 := Tryz.func55.trans (congrArg some (by kernel_rfl))
  f195 := Tryz.func65.trans (congrArg some (by kernel_rfl))
  f197 := Tryz.func54.trans (congrArg some (by kernel_rfl))
  f217 := Tryz.func82.trans (congrArg some (by kernel_rfl))
  f218 := Tryz.func66.trans (congrArg some (by kernel_rfl))
  f219 := Tryz.func64.trans (congrArg some (by kernel_rfl))
  f224 := Tryz.func84.trans (congrArg some (by kernel_rfl))
  f225 := Tryz.func83.trans (congrArg some (by kernel_rfl))
  f240 := Tryz.func67.trans (congrArg some (by kernel_rfl))
  f241 := Tryz.func68.trans (congrArg some (by kernel_rfl))
  f260 := Tryz.func69.trans (congrArg some (by kernel_rfl))
  f266 := Tryz.func102.trans (congrArg some (by kernel_rfl))
  f267 := Tryz.func85.trans (congrArg some (by kernel_rfl))
  f276 := Tryz.func86.trans (congrArg some (by kernel_rfl))
  f277 := Tryz.func87.trans (congrArg some (by kernel_rfl))
  f314 := Tryz.func103.trans (congrArg some (by kernel_rfl))
  t0 := Tryz.underlying0
  a0 := Tryz.isAgg0
  z0 := Tryz.sizeOf0
  v0 := Tryz.zeroValue0
  t3 := Tryz.underlying3
  a3 := Tryz.isAgg3
  z3 := Tryz.sizeOf3
  v3 := Tryz.zeroValue3
  t4 := Tryz.underlying4
  a4 := Tryz.isAgg4
  z4 := Tryz.sizeOf4
  v4 := Tryz.zeroValue4
  t5 := Tryz.underlying5
  a5 := Tryz.isAgg5
  z5 := Tryz.sizeOf5
  v5 := Tryz.zeroValue5
  t9 := Tryz.underlying9
  a9 := Tryz.isAgg9
  z9 := Tryz.sizeOf9
  v9 := Tryz.zeroValue9
  t20 := Tryz.underlying20
  a20 := Tryz.isAgg20
  z20 := Tryz.sizeOf20
  v20 := Tryz.zeroValue20
  t21 := Tryz.underlying21
  a21 := Tryz.isAgg21
  z21 := Tryz.sizeOf21
  v21 := Tryz.zeroValue21
  t37 := Tryz.underlying25
  a37 := Tryz.isAgg25
  z37 := Tryz.sizeOf25
  v37 := Tryz.zeroValue25
  t46 := Tryz.underlying50
  a46 := Tryz.isAgg50
  z46 := Tryz.sizeOf50
  v46 := Tryz.zeroValue50
  t51 := Tryz.underlying95
  a51 := Tryz.isAgg95
  z51 := Tryz.sizeOf95
  v51 := Tryz.zeroValue95
  t70 := Tryz.underlying64
  a70 := Tryz.isAgg64
  z70 := Tryz.sizeOf64
  v70 := Tryz.zeroValue64
  t72 := Tryz.underlying66
  a72 := Tryz.isAgg66
  z72 := Tryz.sizeOf66
  v72 := Tryz.zeroValue66
  t75 := Tryz.underlying69
  a75 := Tryz.isAgg69
  z75 := Tryz.sizeOf69
  v75 := Tryz.zeroValue69
  t76 := Tryz.underlying70
  a76 := Tryz.isAgg70
  z76 := Tryz.sizeOf70
  v76 := Tryz.zeroValue70
  t105 := Tryz.underlying72
  a105 := Tryz.isAgg72
  z105 := Tryz.sizeOf72
  v105 := Tryz.zeroValue72
  t119 := Tryz.underlying79
  a119 := Tryz.isAgg79
  z119 := Tryz.sizeOf79
  t127 := Tryz.underlying84
  a127 := Tryz.isAgg84
  z127 := Tryz.sizeOf84
  v127 := Tryz.zeroValue84
  t138 := Tryz.underlying109
  a138 := Tryz.isAgg109
  z138 := Tryz.sizeOf109
  v138 := Tryz.zeroValue109
  t139 := Tryz.underlying110
  a139 := Tryz.isAgg110
  z139 := Tryz.sizeOf110
  v139 := Tryz.zeroValue110
  t146 := Tryz.underlying114
  a146 := Tryz.isAgg114
  z146 := Tryz.sizeOf114
  v146 := Tryz.zeroValue114
  t164 := Tryz.underlying105
  a164 := Tryz.isAgg105
  z164 := Tryz.sizeOf105
  v164 := Tryz.zeroValue105
  g1 := by kernel_rfl
  g3 := by kernel_rfl
  g4 := by kernel_rfl
  t80 := Tryz.underlying74
  a80 := Tryz.isAgg74
  z80 := Tryz.sizeOf74
  v80 := Tryz.zeroValue74
  i0 := by kernel_rfl
  i3 := by kernel_rfl
  i4 := by kernel_rfl
  i5 := by kernel_rfl
  i9 := by kernel_rfl
  i20 := by kernel_rfl
  i21 := by kernel_rfl
  i37 := by kernel_rfl
  i46 := by kernel_rfl
  i51 := by kernel_rfl
  i70 := by kernel_rfl
  i72 := by kernel_rfl
  i75 := by kernel_rfl
  i76 := by kernel_rfl
  i80 := by kernel_rfl
  i105 := by kernel_rfl
  i127 := by kernel_rfl
  i138 := by kernel_rfl
  i139 := by kernel_rfl
  i146 := by kernel_rfl
  i164 := by kernel_rfl
  m1 := by kernel_rfl
  s1_3 := fun w h => Go.Proofs.cell_of_shapedOpen_int (zero := #[.int .i64 0]) (t := 3) h (of_decide_eq_true (by kernel_rfl)) (by kernel_rfl) rfl (by kernel_rfl) (by kernel_rfl) Tryz.underlying3
  m3 := by kernel_rfl
  m4 := by kernel_rfl }
theorem Tryz.Builder_Extra_M154 : Builder.Extra Tryz.prog Tryz.laysM154_ren := {
  sizeBuilder := by kernel_rfl
  liesBuilder := by kernel_rfl
  t5 := Tryz.underlying5
  a5 := Tryz.isAgg5
  z5 := Tryz.sizeOf5
  v5 := Tryz.zeroValue5
  infoByte := by kernel_rfl
  cellsByte := by kernel_rfl
  sizeByte := by kernel_rfl
  neB5 := by decide }
open Go.RowKit Go.Lib in
/-- strings.Replace, old not empty. (LAID: no walk: one application.) -/
theorem Tryz.strings_Replace_shaped (s old new : ByteArray) (n : Int) (w : World) (h : w.ShapedOpen Tryz.prog) (hs : s.size < 4294967281) (h1 : 1 ≤ old.size) (hlen : s.size + Lib.countB s old * new.size ≤ 140737488355328) :
    Calls Tryz.prog 36 #[.string s, .string old, .string new, .int .i64 n] w fun e w' =>
      e = .returned (.string ⟨(Lib.replace s.data.toList old.data.toList new.data.toList n).toArray⟩) ∧ Below w.heap.size w w' := Any.strings_Replace_shaped Tryz.laysM154 Tryz.Builder_Extra_M154 s old new n w h hs h1 hlen
def Tryz.laysM155_ren : Go.Shelf.Ren := ⟨fun | 155 => 37 | 154 => 36 | 138 => 51 | 165 => 52 | 143 => 50 | 166 => 53 | 197 => 54 | 169 => 55 | 195 => 65 | 218 => 66 | 240 => 67 | 241 => 68 | 219 => 64 | 260 => 69 | 276 => 86 | 277 => 87 | 217 => 82 | 225 => 83 | 224 => 84 | 267 => 85 | 266 => 102 | 314 => 103 | n => n, fun | 9 => 9 | 3 => 3 | 4 => 4 | 72 => 66 | 0 => 0 | 76 => 70 | 105 => 72 | 21 => 21 | 5 => 5 | 70 => 64 | 20 => 20 | 37 => 25 | 75 => 69 | 127 => 84 | 164 => 105 | 46 => 50 | 119 => 79 | 139 => 110 | 138 => 109 | 146 => 114 | 51 => 95 | 80 => 74 | n => n, fun | 1 => 2 | 3 => 3 | 4 => 4 | n => n⟩
theorem Tryz.laysM155 : Go.Proofs.LaysM.n155 Tryz.prog Tryz.laysM155_ren := {
  mixed := by kernel_rfl
  f138 := Tryz.func51.trans (congrArg some (by kernel_rfl))
  f143 := Tryz.func50.trans (congrArg some (by kernel_rfl))
  f154 := Tryz.func36.trans (congrArg some (by kernel_rfl))
  f155 := Tryz.func37.trans (congrArg some (by kernel_rfl))
  f165 := Tryz.func52.trans (congrArg some (by kernel_rfl))
  f166 := Tryz.func53.trans (congrArg some (by kernel_rfl))
  f169 := Tryz.func55.trans (congrArg some (by kernel_rfl))
  f195 := Tryz.func65.trans (congrArg some (by kernel_rfl))
  f197 := Tryz.func54.trans (congrArg some (by kernel_rfl))
  f217 := Tryz.func82.trans (congrArg some (by kernel_rfl))
  f218 := Tryz.func66.trans (congrArg some (by kernel_rfl))
  f219 := Tryz.func64.trans (congrArg some (by kernel_rfl))
  f224 := Tryz.func84.trans (congrArg some (by kernel_rfl))
  f225 := Tryz.func83.trans (congrArg some (by kernel_rfl))
  f240 := Tryz.func67.trans (congrArg some (by kernel_rfl))
  f241 := Tryz.func68.trans (congrArg some (by kernel_rfl))
  f260 := Tryz.func69.trans (congrArg some (by kernel_rfl))
  f266 := Tryz.func102.trans (congrArg some (by kernel_rfl))
  f267 := Tryz.func85.trans (congrArg some (by kernel_rfl))
  f276 := Tryz.func86.trans (congrArg some (by kernel_rfl))
  f277 := Tryz.func87.trans (congrArg some (by kernel_rfl))
  f314 := Tryz.func103.trans (congrArg some (by kernel_rfl))
  t0 := Tryz.underlying0
  a0 := Tryz.isAgg0
  z0 := Tryz.sizeOf0
  v0 := Tryz.zeroValue0
  t3 := Tryz.underlying3
  a3 := Tryz.isAgg3
  z3 := Tryz.sizeOf3
  v3 := Tryz.zeroValue3
  t4 := Tryz.underlying4
  a4 := Tryz.isAgg4
  z4 := Tryz.sizeOf4
  v4 := Tryz.zeroValue4
  t5 := Tryz.underlying5
  a5 := Tryz.isAgg5
  z5 := Tryz.sizeOf5
  v5 := Tryz.zeroValue5
  t9 := Tryz.underlying9
  a9 := Tryz.isAgg9
  z9 := Tryz.sizeOf9
  v9 := Tryz.zeroValue9
  t20 := Tryz.underlying20
  a20 := Tryz.isAgg20
  z20 := Tryz.sizeOf20
  v20 := Tryz.zeroValue20
  t21 := Tryz.underlying21
  a21 := Tryz.isAgg21
  z21 := Tryz.sizeOf21
  v21 := Tryz.zeroValue21
  t37 := Tryz.underlying25
  a37 := Tryz.isAgg25
  z37 := Tryz.sizeOf25
  v37 := Tryz.zeroValue25
  t46 := Tryz.underlying50
  a46 := Tryz.isAgg50
  z46 := Tryz.sizeOf50
  v46 := Tryz.zeroValue50
  t51 := Tryz.underlying95
  a51 := Tryz.isAgg95
  z51 := Tryz.sizeOf95
  v51 := Tryz.zeroValue95
  t70 := Tryz.underlying64
  a70 := Tryz.isAgg64
  z70 := Tryz.sizeOf64
  v70 := Tryz.zeroValue64
  t72 := Tryz.underlying66
  a72 := Tryz.isAgg66
  z72 := Tryz.sizeOf66
  v72 := Tryz.zeroValue66
  t75 := Tryz.underlying69
  a75 := Tryz.isAgg69
  z75 := Tryz.sizeOf69
  v75 := Tryz.zeroValue69
  t76 := Tryz.underlying70
  a76 := Tryz.isAgg70
  z76 := Tryz.sizeOf70
  v76 := Tryz.zeroValue70
  t105 := Tryz.underlying72
  a105 := Tryz.isAgg72
  z105 := Tryz.sizeOf72
  v105 := Tryz.zeroValue72
  t119 := Tryz.underlying79
  a119 := Tryz.isAgg79
  z119 := Tryz.sizeOf79
  t127 := Tryz.underlying84
  a127 := Tryz.isAgg84
  z127 := Tryz.sizeOf84
  v127 := Tryz.zeroValue84
  t138 := Tryz.underlying109
  a138 := Tryz.isAgg109
  z138 := Tryz.sizeOf109
  v138 := Tryz.zeroValue109
  t139 := Tryz.underlying110
  a139 := Tryz.isAgg110
  z139 := Tryz.sizeOf110
  v139 := Tryz.zeroValue110
  t146 := Tryz.underlying114
  a146 := Tryz.isAgg114
  z146 := Tryz.sizeOf114
  v146 := Tryz.zeroValue114
  t164 := Tryz.underlying105
  a164 := Tryz.isAgg105
  z164 := Tryz.sizeOf105
  v164 := Tryz.zeroValue105
  g1 := by kernel_rfl
  g3 := by kernel_rfl
  g4 := by kernel_rfl
  t80 := Tryz.underlying74
  a80 := Tryz.isAgg74
  z80 := Tryz.sizeOf74
  v80 := Tryz.zeroValue74
  i0 := by kernel_rfl
  i3 := by kernel_rfl
  i4 := by kernel_rfl
  i5 := by kernel_rfl
  i9 := by kernel_rfl
  i20 := by kernel_rfl
  i21 := by kernel_rfl
  i37 := by kernel_rfl
  i46 := by kernel_rfl
  i51 := by kernel_rfl
  i70 := by kernel_rfl
  i72 := by kernel_rfl
  i75 := by kernel_rfl
  i76 := by kernel_rfl
  i80 := by kernel_rfl
  i105 := by kernel_rfl
  i127 := by kernel_rfl
  i138 := by kernel_rfl
  i139 := by kernel_rfl
  i146 := by kernel_rfl
  i164 := by kernel_rfl
  m1 := by kernel_rfl
  s1_3 := fun w h => Go.Proofs.cell_of_shapedOpen_int (zero := #[.int .i64 0]) (t := 3) h (of_decide_eq_true (by kernel_rfl)) (by kernel_rfl) rfl (by kernel_rfl) (by kernel_rfl) Tryz.underlying3
  m3 := by kernel_rfl
  m4 := by kernel_rfl }
theorem Tryz.Builder_Extra_M155 : Builder.Extra Tryz.prog Tryz.laysM155_ren := {
  sizeBuilder := by kernel_rfl
  liesBuilder := by kernel_rfl
  t5 := Tryz.underlying5
  a5 := Tryz.isAgg5
  z5 := Tryz.sizeOf5
  v5 := Tryz.zeroValue5
  infoByte := by kernel_rfl
  cellsByte := by kernel_rfl
  sizeByte := by kernel_rfl
  neB5 := by decide }
open Go.RowKit Go.Lib in
/-- strings.ReplaceAll, old not empty. (LAID: no walk: one application.) -/
theorem Tryz.strings_ReplaceAll_shaped (s old new : ByteArray) (w : World) (h : w.ShapedOpen Tryz.prog) (hs : s.size < 4294967281) (h1 : 1 ≤ old.size) (hlen : s.size + Lib.countB s old * new.size ≤ 140737488355328) :
    Calls Tryz.prog 37 #[.string s, .string old, .string new] w fun e w' =>
      e = .returned (.string ⟨(Lib.replaceAll s.data.toList old.data.toList new.data.toList).toArray⟩) ∧ Below w.heap.size w w' := Any.strings_ReplaceAll_shaped Tryz.laysM155 Tryz.Builder_Extra_M155 s old new w h hs h1 hlen
def Tryz.lays199_ren : Go.Shelf.Ren := ⟨fun | 199 => 62 | 261 => 77 | 311 => 95 | 312 => 96 | n => n, fun | 21 => 21 | 4 => 4 | 51 => 95 | 141 => 97 | 0 => 0 | 196 => 121 | 193 => 118 | 3 => 3 | 198 => 124 | 49 => 122 | 194 => 119 | 201 => 127 | 226 => 139 | 46 => 50 | 227 => 140 | n => n, fun | 6 => 1 | n => n⟩
theorem Tryz.lays199 : Go.Proofs.Lays.n199 Tryz.prog Tryz.lays199_ren := {
  mixed := by kernel_rfl
  f199 := Tryz.func62.trans (congrArg some (by kernel_rfl))
  f261 := Tryz.func77.trans (congrArg some (by kernel_rfl))
  f311 := Tryz.func95.trans (congrArg some (by kernel_rfl))
  f312 := Tryz.func96.trans (congrArg some (by kernel_rfl))
  t0 := Tryz.underlying0
  a0 := Tryz.isAgg0
  z0 := Tryz.sizeOf0
  v0 := Tryz.zeroValue0
  t3 := Tryz.underlying3
  a3 := Tryz.isAgg3
  z3 := Tryz.sizeOf3
  v3 := Tryz.zeroValue3
  t4 := Tryz.underlying4
  a4 := Tryz.isAgg4
  z4 := Tryz.sizeOf4
  v4 := Tryz.zeroValue4
  t21 := Tryz.underlying21
  a21 := Tryz.isAgg21
  z21 := Tryz.sizeOf21
  v21 := Tryz.zeroValue21
  t46 := Tryz.underlying50
  a46 := Tryz.isAgg50
  z46 := Tryz.sizeOf50
  v46 := Tryz.zeroValue50
  t49 := Tryz.underlying122
  a49 := Tryz.isAgg122
  z49 := Tryz.sizeOf122
  v49 := Tryz.zeroValue122
  t51 := Tryz.underlying95
  a51 := Tryz.isAgg95
  z51 := Tryz.sizeOf95
  v51 := Tryz.zeroValue95
  t141 := Tryz.underlying97
  a141 := Tryz.isAgg97
  z141 := Tryz.sizeOf97
  v141 := Tryz.zeroValue97
  t193 := Tryz.underlying118
  a193 := Tryz.isAgg118
  z193 := Tryz.sizeOf118
  v193 := Tryz.zeroValue118
  t194 := Tryz.underlying119
  a194 := Tryz.isAgg119
  z194 := Tryz.sizeOf119
  v194 := Tryz.zeroValue119
  t196 := Tryz.underlying121
  a196 := Tryz.isAgg121
  z196 := Tryz.sizeOf121
  v196 := Tryz.zeroValue121
  t198 := Tryz.underlying124
  a198 := Tryz.isAgg124
  z198 := Tryz.sizeOf124
  v198 := Tryz.zeroValue124
  t201 := Tryz.underlying127
  a201 := Tryz.isAgg127
  z201 := Tryz.sizeOf127
  v201 := Tryz.zeroValue127
  t226 := Tryz.underlying139
  a226 := Tryz.isAgg139
  z226 := Tryz.sizeOf139
  v226 := Tryz.zeroValue139
  t227 := Tryz.underlying140
  a227 := Tryz.isAgg140
  z227 := Tryz.sizeOf140
  v227 := Tryz.zeroValue140
  g6 := by kernel_rfl }
open Go.RowKit Go.Lib in
theorem Tryz.unicode_IsSpace (r : Int) (w : World) (h0 : 0 ≤ r) (h : r ≤ 255) :
    Calls Tryz.prog 62 #[.int .i32 r] w fun e w' => e = .returned (.bool (Lib.isSpaceL r)) ∧ w' = w := Any.unicode_IsSpace Tryz.lays199 r w h0 h
def Tryz.lays203_ren : Go.Shelf.Ren := ⟨fun | 203 => 73 | 262 => 91 | 313 => 105 | 274 => 109 | 275 => 110 | n => n, fun | 21 => 21 | 4 => 4 | 3 => 3 | 162 => 138 | 203 => 136 | 160 => 142 | 46 => 50 | 0 => 0 | 208 => 150 | 51 => 95 | 206 => 148 | n => n, fun | 13 => 6 | n => n⟩
theorem Tryz.lays203 : Go.Proofs.Lays.n203 Tryz.prog Tryz.lays203_ren := {
  mixed := by kernel_rfl
  f203 := Tryz.func73.trans (congrArg some (by kernel_rfl))
  f262 := Tryz.func91.trans (congrArg some (by kernel_rfl))
  f274 := Tryz.func109.trans (congrArg some (by kernel_rfl))
  f275 := Tryz.func110.trans (congrArg some (by kernel_rfl))
  f313 := Tryz.func105.trans (congrArg some (by kernel_rfl))
  t0 := Tryz.underlying0
  a0 := Tryz.isAgg0
  z0 := Tryz.sizeOf0
  v0 := Tryz.zeroValue0
  t3 := Tryz.underlying3
  a3 := Tryz.isAgg3
  z3 := Tryz.sizeOf3
  v3 := Tryz.zeroValue3
  t4 := Tryz.underlying4
  a4 := Tryz.isAgg4
  z4 := Tryz.sizeOf4
  v4 := Tryz.zeroValue4
  t21 := Tryz.underlying21
  a21 := Tryz.isAgg21
  z21 := Tryz.sizeOf21
  v21 := Tryz.zeroValue21
  t46 := Tryz.underlying50
  a46 := Tryz.isAgg50
  z46 := Tryz.sizeOf50
  v46 := Tryz.zeroValue50
  t51 := Tryz.underlying95
  a51 := Tryz.isAgg95
  z51 := Tryz.sizeOf95
  v51 := Tryz.zeroValue95
  t160 := Tryz.underlying142
  a160 := Tryz.isAgg142
  z160 := Tryz.sizeOf142
  v160 := Tryz.zeroValue142
  t162 := Tryz.underlying138
  a162 := Tryz.isAgg138
  z162 := Tryz.sizeOf138
  v162 := Tryz.zeroValue138
  t203 := Tryz.underlying136
  a203 := Tryz.isAgg136
  z203 := Tryz.sizeOf136
  v203 := Tryz.zeroValue136
  t206 := Tryz.underlying148
  a206 := Tryz.isAgg148
  z206 := Tryz.sizeOf148
  v206 := Tryz.zeroValue148
  t208 := Tryz.underlying150
  a208 := Tryz.isAgg150
  z208 := Tryz.sizeOf150
  v208 := Tryz.zeroValue150
  g13 := by kernel_rfl }
open Go.RowKit Go.Lib in
theorem Tryz.unicode_ToUpper (r : Int) (w : World) (h : r ≤ 127) :
    Calls Tryz.prog 73 #[.int .i32 r] w fun e w' => e = .returned (.int .i32 (Lib.toUpperR r)) ∧ w' = w := Any.unicode_ToUpper Tryz.lays203 r w h
def Tryz.lays264_ren : Go.Shelf.Ren := ⟨fun | 264 => 93 | n => n, fun | 53 => 99 | 46 => 50 | n => n, fun | n => n⟩
theorem Tryz.lays264 : Go.Proofs.Lays.n264 Tryz.prog Tryz.lays264_ren := {
  mixed := by kernel_rfl
  f264 := Tryz.func93.trans (congrArg some (by kernel_rfl))
  t46 := Tryz.underlying50
  a46 := Tryz.isAgg50
  z46 := Tryz.sizeOf50
  v46 := Tryz.zeroValue50
  t53 := Tryz.underlying99
  a53 := Tryz.isAgg99
  z53 := Tryz.sizeOf99
  v53 := Tryz.zeroValue99 }
open Go.RowKit Go.Lib in
theorem Tryz.bits_Mul64 (x y : Nat) (hx : x < 18446744073709551616) (hy : y < 18446744073709551616) (w : World) :
    Calls Tryz.prog 93 #[.int .u64 x, .int .u64 y] w fun e w' => e = .returned (.tuple #[.int .u64 ((x * y / 18446744073709551616 : Nat) : Int), .int .u64 ((x * y % 18446744073709551616 : Nat) : Int)]) ∧ w' = w := Any.bits_Mul64 Tryz.lays264 x y hx hy w
def Tryz.lays212_ren : Go.Shelf.Ren := ⟨fun | 212 => 74 | 263 => 92 | 264 => 93 | n => n, fun | 46 => 50 | 51 => 95 | 146 => 114 | 53 => 99 | 148 => 116 | n => n, fun | n => n⟩
theorem Tryz.lays212 : Go.Proofs.Lays.n212 Tryz.prog Tryz.lays212_ren := {
  mixed := by kernel_rfl
  f212 := Tryz.func74.trans (congrArg some (by kernel_rfl))
  f263 := Tryz.func92.trans (congrArg some (by kernel_rfl))
  f264 := Tryz.func93.trans (congrArg some (by kernel_rfl))
  t46 := Tryz.underlying50
  a46 := Tryz.isAgg50
  z46 := Tryz.sizeOf50
  v46 := Tryz.zeroValue50
  t51 := Tryz.underlying95
  a51 := Tryz.isAgg95
  z51 := Tryz.sizeOf95
  v51 := Tryz.zeroValue95
  t53 := Tryz.underlying99
  a53 := Tryz.isAgg99
  z53 := Tryz.sizeOf99
  v53 := Tryz.zeroValue99
  t146 := Tryz.underlying114
  a146 := Tryz.isAgg114
  z146 := Tryz.sizeOf114
  v146 := Tryz.zeroValue114
  t148 := Tryz.underlying116
  a148 := Tryz.isAgg116
  z148 := Tryz.sizeOf116
  v148 := Tryz.zeroValue116 }
open Go.RowKit Go.Lib in
/-- math/bits.Mul: "Mul returns the full-width product of x and y": on a machine of 64 bits: Mul64's. (LAID: no walk: one application.) -/
theorem Tryz.bits_Mul (x y : Nat) (hx : x < 18446744073709551616) (hy : y < 18446744073709551616) (w : World) :
    Calls Tryz.prog 74 #[.int .u64 x, .int .u64 y] w fun e w' => e = .returned (.tuple #[.int .u64 ((x * y / 18446744073709551616 : Nat) : Int), .int .u64 ((x * y % 18446744073709551616 : Nat) : Int)]) ∧ w' = w := Any.bits_Mul Tryz.lays212 x y hx hy w
def Tryz.lays105_ren : Go.Shelf.Ren := ⟨fun | 105 => 60 | 212 => 74 | 99 => 75 | 165 => 52 | 166 => 53 | 170 => 76 | 169 => 55 | 263 => 92 | 264 => 93 | 206 => 94 | 240 => 67 | 241 => 68 | 276 => 86 | 277 => 87 | n => n, fun | 9 => 9 | 3 => 3 | 4 => 4 | 20 => 20 | 0 => 0 | 46 => 50 | 109 => 89 | 5 => 5 | 72 => 66 | 76 => 70 | 51 => 95 | 146 => 114 | 53 => 99 | 148 => 116 | 70 => 64 | 37 => 25 | 75 => 69 | 127 => 84 | 164 => 105 | 80 => 74 | n => n, fun | n => n⟩
theorem Tryz.lays105 : Go.Proofs.Lays.n105 Tryz.prog Tryz.lays105_ren := {
  mixed := by kernel_rfl
  f99 := Tryz.func75.trans (congrArg some (by kernel_rfl))
  f105 := Tryz.func60.trans (congrArg some (by kernel_rfl))
  f165 := Tryz.func52.trans (congrArg some (by kernel_rfl))
  f166 := Tryz.func53.trans (congrArg some (by kernel_rfl))
  f169 := Tryz.func55.trans (congrArg some (by kernel_rfl))
  f170 := Tryz.func76.trans (congrArg some (by kernel_rfl))
  f206 := Tryz.func94.trans (congrArg some (by kernel_rfl))
  f212 := Tryz.func74.trans (congrArg some (by kernel_rfl))
  f240 := Tryz.func67.trans (congrArg some (by kernel_rfl))
  f241 := Tryz.func68.trans (congrArg some (by kernel_rfl))
  f263 := Tryz.func92.trans (congrArg some (by kernel_rfl))
  f264 := Tryz.func93.trans (congrArg some (by kernel_rfl))
  f276 := Tryz.func86.trans (congrArg some (by kernel_rfl))
  f277 := Tryz.func87.trans (congrArg some (by kernel_rfl))
  t0 := Tryz.underlying0
  a0 := Tryz.isAgg0
  z0 := Tryz.sizeOf0
  v0 := Tryz.zeroValue0
  t3 := Tryz.underlying3
  a3 := Tryz.isAgg3
  z3 := Tryz.sizeOf3
  v3 := Tryz.zeroValue3
  t4 := Tryz.underlying4
  a4 := Tryz.isAgg4
  z4 := Tryz.sizeOf4
  v4 := Tryz.zeroValue4
  t5 := Tryz.underlying5
  a5 := Tryz.isAgg5
  z5 := Tryz.sizeOf5
  v5 := Tryz.zeroValue5
  t9 := Tryz.underlying9
  a9 := Tryz.isAgg9
  z9 := Tryz.sizeOf9
  v9 := Tryz.zeroValue9
  t20 := Tryz.underlying20
  a20 := Tryz.isAgg20
  z20 := Tryz.sizeOf20
  v20 := Tryz.zeroValue20
  t37 := Tryz.underlying25
  a37 := Tryz.isAgg25
  z37 := Tryz.sizeOf25
  v37 := Tryz.zeroValue25
  t46 := Tryz.underlying50
  a46 := Tryz.isAgg50
  z46 := Tryz.sizeOf50
  v46 := Tryz.zeroValue50
  t51 := Tryz.underlying95
  a51 := Tryz.isAgg95
  z51 := Tryz.sizeOf95
  v51 := Tryz.zeroValue95
  t53 := Tryz.underlying99
  a53 := Tryz.isAgg99
  z53 := Tryz.sizeOf99
  v53 := Tryz.zeroValue99
  t70 := Tryz.underlying64
  a70 := Tryz.isAgg64
  z70 := Tryz.sizeOf64
  v70 := Tryz.zeroValue64
  t72 := Tryz.underlying66
  a72 := Tryz.isAgg66
  z72 := Tryz.sizeOf66
  v72 := Tryz.zeroValue66
  t75 := Tryz.underlying69
  a75 := Tryz.isAgg69
  z75 := Tryz.sizeOf69
  v75 := Tryz.zeroValue69
  t76 := Tryz.underlying70
  a76 := Tryz.isAgg70
  z76 := Tryz.sizeOf70
  v76 := Tryz.zeroValue70
  t109 := Tryz.underlying89
  a109 := Tryz.isAgg89
  z109 := Tryz.sizeOf89
  v109 := Tryz.zeroValue89
  t127 := Tryz.underlying84
  a127 := Tryz.isAgg84
  z127 := Tryz.sizeOf84
  v127 := Tryz.zeroValue84
  t146 := Tryz.underlying114
  a146 := Tryz.isAgg114
  z146 := Tryz.sizeOf114
  v146 := Tryz.zeroValue114
  t148 := Tryz.underlying116
  a148 := Tryz.isAgg116
  z148 := Tryz.sizeOf116
  v148 := Tryz.zeroValue116
  t164 := Tryz.underlying105
  a164 := Tryz.isAgg105
  z164 := Tryz.sizeOf105
  v164 := Tryz.zeroValue105 }
theorem Tryz.Builder_Extra_105 : Builder.Extra Tryz.prog Tryz.lays105_ren := {
  sizeBuilder := by kernel_rfl
  liesBuilder := by kernel_rfl
  t5 := Tryz.underlying5
  a5 := Tryz.isAgg5
  z5 := Tryz.sizeOf5
  v5 := Tryz.zeroValue5
  infoByte := by kernel_rfl
  cellsByte := by kernel_rfl
  sizeByte := by kernel_rfl
  neB5 := by decide }
open Go.RowKit Go.Lib in
/-- THE MAIN CASE: at least two copies of a string that is not empty. (LAID: no walk: one application.) -/
theorem Tryz.strings_Repeat_main (s : ByteArray) (c : Nat) (w : World) (hc2 : 2 ≤ c) (hc : c ≤ 9223372036854775807) (hlen : s.size * c ≤ 140737488355328) (h0 : 0 < s.size) :
    Calls Tryz.prog 60 #[.string s, .int .i64 c] w fun e w' => e = .returned (.string ⟨(Lib.repeatL s.data.toList c).toArray⟩) ∧ Below w.heap.size w w' := Any.strings_Repeat_main Tryz.lays105 Tryz.Builder_Extra_105 s c w hc2 hc hlen h0
open Go.RowKit Go.Lib in
theorem Tryz.strings_Repeat_zero (s : ByteArray) (w : World) :
    Calls Tryz.prog 60 #[.string s, .int .i64 0] w fun e w' => e = .returned (.string ⟨#[]⟩) ∧ w' = w := Any.strings_Repeat_zero Tryz.lays105 s w
open Go.RowKit Go.Lib in
theorem Tryz.strings_Repeat_one (s : ByteArray) (w : World) :
    Calls Tryz.prog 60 #[.string s, .int .i64 1] w fun e w' => e = .returned (.string s) ∧ w' = w := Any.strings_Repeat_one Tryz.lays105 s w
open Go.RowKit Go.Lib in
/-- Copies of the empty string. (LAID: no walk: one application.) -/
theorem Tryz.strings_Repeat_empty (s : ByteArray) (c : Nat) (w : World) (hc2 : 2 ≤ c) (hc : c ≤ 9223372036854775807) (h0 : s.size = 0) :
    Calls Tryz.prog 60 #[.string s, .int .i64 c] w fun e w' => e = .returned (.string ⟨#[]⟩) ∧ w' = w := Any.strings_Repeat_empty Tryz.lays105 s c w hc2 hc h0
open Go.RowKit Go.Lib in
/-- count < 0: "It panics if count is negative". (LAID: no walk: one application.) -/
theorem Tryz.strings_Repeat_negative (s : ByteArray) (c : Int) (w : World) (hc : c < 0) :
    Calls Tryz.prog 60 #[.string s, .int .i64 c] w fun e w' => e = .panicked [{ v := repeatPanic Tryz.lays105_ren "strings: negative Repeat count", recovered := false }] ∧ w' = w := Any.strings_Repeat_negative Tryz.lays105 s c w hc
open Go.RowKit Go.Lib in
/-- len(s) * count is no int: ".. or if the result of (len(s) * count) overflows". (LAID: no walk: one application.) -/
theorem Tryz.strings_Repeat_overflow (s : ByteArray) (c : Nat) (w : World) (hc : c ≤ 9223372036854775807) (hs : s.size ≤ 9223372036854775807) (hbig : 9223372036854775807 < s.size * c) :
    Calls Tryz.prog 60 #[.string s, .int .i64 c] w fun e w' => e = .panicked [{ v := repeatPanic Tryz.lays105_ren "strings: Repeat output length overflow", recovered := false }] ∧ w' = w := Any.strings_Repeat_overflow Tryz.lays105 s c w hc hs hbig
open Go.RowKit Go.Lib in
/-- **strings.Repeat: count ≥ 0, the result within one allocation: count copies of s.** (LAID: no walk: one application.) -/
theorem Tryz.strings_Repeat (s : ByteArray) (c : Nat) (w : World) (hc : c ≤ 9223372036854775807) (hlen : s.size * c ≤ 140737488355328) :
    Calls Tryz.prog 60 #[.string s, .int .i64 c] w fun e w' => e = .returned (.string ⟨(Lib.repeatL s.data.toList c).toArray⟩) ∧ Below w.heap.size w w' := Any.strings_Repeat Tryz.lays105 Tryz.Builder_Extra_105 s c w hc hlen
def Tryz.lays260_ren : Go.Shelf.Ren := ⟨fun | 260 => 69 | n => n, fun | 9 => 9 | 21 => 21 | 3 => 3 | 4 => 4 | 5 => 5 | 119 => 79 | 0 => 0 | 46 => 50 | 139 => 110 | 138 => 109 | n => n, fun | 3 => 3 | 4 => 4 | n => n⟩
theorem Tryz.lays260 : Go.Proofs.Lays.n260 Tryz.prog Tryz.lays260_ren := {
  mixed := by kernel_rfl
  f260 := Tryz.func69.trans (congrArg some (by kernel_rfl))
  t0 := Tryz.underlying0
  a0 := Tryz.isAgg0
  z0 := Tryz.sizeOf0
  v0 := Tryz.zeroValue0
  t3 := Tryz.underlying3
  a3 := Tryz.isAgg3
  z3 := Tryz.sizeOf3
  v3 := Tryz.zeroValue3
  t4 := Tryz.underlying4
  a4 := Tryz.isAgg4
  z4 := Tryz.sizeOf4
  v4 := Tryz.zeroValue4
  t5 := Tryz.underlying5
  a5 := Tryz.isAgg5
  z5 := Tryz.sizeOf5
  v5 := Tryz.zeroValue5
  t9 := Tryz.underlying9
  a9 := Tryz.isAgg9
  z9 := Tryz.sizeOf9
  v9 := Tryz.zeroValue9
  t21 := Tryz.underlying21
  a21 := Tryz.isAgg21
  z21 := Tryz.sizeOf21
  v21 := Tryz.zeroValue21
  t46 := Tryz.underlying50
  a46 := Tryz.isAgg50
  z46 := Tryz.sizeOf50
  v46 := Tryz.zeroValue50
  t119 := Tryz.underlying79
  a119 := Tryz.isAgg79
  z119 := Tryz.sizeOf79
  t138 := Tryz.underlying109
  a138 := Tryz.isAgg109
  z138 := Tryz.sizeOf109
  v138 := Tryz.zeroValue109
  t139 := Tryz.underlying110
  a139 := Tryz.isAgg110
  z139 := Tryz.sizeOf110
  v139 := Tryz.zeroValue110
  g3 := by kernel_rfl
  g4 := by kernel_rfl }
open Go.RowKit Go.Lib in
theorem Tryz.utf8_decodeRuneInStringSlow (s : ByteArray) (w : World) (hT : Lib.Utf8Tabs 3 4 w) :
    Calls Tryz.prog 69 #[.string s] w fun e w' => e = .returned (.tuple #[.int .i32 (Lib.decodeGo s).1, .int .i64 (Lib.decodeGo s).2]) ∧ Below w.heap.size w w' := Any.utf8_decodeRuneInStringSlow Tryz.lays260 s w hT
def Tryz.lays197_ren : Go.Shelf.Ren := ⟨fun | 197 => 54 | 260 => 69 | n => n, fun | 9 => 9 | 21 => 21 | 3 => 3 | 4 => 4 | 5 => 5 | 105 => 72 | 119 => 79 | 0 => 0 | 46 => 50 | 139 => 110 | 138 => 109 | n => n, fun | 3 => 3 | 4 => 4 | n => n⟩
theorem Tryz.lays197 : Go.Proofs.Lays.n197 Tryz.prog Tryz.lays197_ren := {
  mixed := by kernel_rfl
  f197 := Tryz.func54.trans (congrArg some (by kernel_rfl))
  f260 := Tryz.func69.trans (congrArg some (by kernel_rfl))
  t0 := Tryz.underlying0
  a0 := Tryz.isAgg0
  z0 := Tryz.sizeOf0
  v0 := Tryz.zeroValue0
  t3 := Tryz.underlying3
  a3 := Tryz.isAgg3
  z3 := Tryz.sizeOf3
  v3 := Tryz.zeroValue3
  t4 := Tryz.underlying4
  a4 := Tryz.isAgg4
  z4 := Tryz.sizeOf4
  v4 := Tryz.zeroValue4
  t5 := Tryz.underlying5
  a5 := Tryz.isAgg5
  z5 := Tryz.sizeOf5
  v5 := Tryz.zeroValue5
  t9 := Tryz.underlying9
  a9 := Tryz.isAgg9
  z9 := Tryz.sizeOf9
  v9 := Tryz.zeroValue9
  t21 := Tryz.underlying21
  a21 := Tryz.isAgg21
  z21 := Tryz.sizeOf21
  v21 := Tryz.zeroValue21
  t46 := Tryz.underlying50
  a46 := Tryz.isAgg50
  z46 := Tryz.sizeOf50
  v46 := Tryz.zeroValue50
  t105 := Tryz.underlying72
  a105 := Tryz.isAgg72
  z105 := Tryz.sizeOf72
  v105 := Tryz.zeroValue72
  t119 := Tryz.underlying79
  a119 := Tryz.isAgg79
  z119 := Tryz.sizeOf79
  t138 := Tryz.underlying109
  a138 := Tryz.isAgg109
  z138 := Tryz.sizeOf109
  v138 := Tryz.zeroValue109
  t139 := Tryz.underlying110
  a139 := Tryz.isAgg110
  z139 := Tryz.sizeOf110
  v139 := Tryz.zeroValue110
  g3 := by kernel_rfl
  g4 := by kernel_rfl }
open Go.RowKit Go.Lib in
/-- **unicode/utf8.DecodeRuneInString AT EVERY STRING.** (LAID: no walk: one application.) -/
theorem Tryz.utf8_DecodeRuneInString (s : ByteArray) (w : World) (hT : Lib.Utf8Tabs 3 4 w) :
    Calls Tryz.prog 54 #[.string s] w fun e w' => e = .returned (.tuple #[.int .i32 (Lib.decodeGo s).1, .int .i64 (Lib.decodeGo s).2]) ∧ Below w.heap.size w w' := Any.utf8_DecodeRuneInString Tryz.lays197 s w hT
def Tryz.lays311_ren : Go.Shelf.Ren := ⟨fun | 311 => 95 | n => n, fun | 193 => 118 | 49 => 122 | 4 => 4 | 3 => 3 | 0 => 0 | 226 => 139 | 198 => 124 | 46 => 50 | n => n, fun | n => n⟩
theorem Tryz.lays311 : Go.Proofs.Lays.n311 Tryz.prog Tryz.lays311_ren := {
  mixed := by kernel_rfl
  f311 := Tryz.func95.trans (congrArg some (by kernel_rfl))
  t0 := Tryz.underlying0
  a0 := Tryz.isAgg0
  z0 := Tryz.sizeOf0
  v0 := Tryz.zeroValue0
  t3 := Tryz.underlying3
  a3 := Tryz.isAgg3
  z3 := Tryz.sizeOf3
  v3 := Tryz.zeroValue3
  t4 := Tryz.underlying4
  a4 := Tryz.isAgg4
  z4 := Tryz.sizeOf4
  v4 := Tryz.zeroValue4
  t46 := Tryz.underlying50
  a46 := Tryz.isAgg50
  z46 := Tryz.sizeOf50
  v46 := Tryz.zeroValue50
  t49 := Tryz.underlying122
  a49 := Tryz.isAgg122
  z49 := Tryz.sizeOf122
  v49 := Tryz.zeroValue122
  t193 := Tryz.underlying118
  a193 := Tryz.isAgg118
  z193 := Tryz.sizeOf118
  v193 := Tryz.zeroValue118
  t198 := Tryz.underlying124
  a198 := Tryz.isAgg124
  z198 := Tryz.sizeOf124
  v198 := Tryz.zeroValue124
  t226 := Tryz.underlying139
  a226 := Tryz.isAgg139
  z226 := Tryz.sizeOf139
  v226 := Tryz.zeroValue139 }
open Go.RowKit Go.Lib in
theorem Tryz.unicode_is16_white (R oR : Nat) (z : Nat) (w : World) (hz : z < 65536) (hz0 : 255 < z) (c6 : w.cell? ⟨R, oR + 6, none⟩ = some (.int .u16 160)) (c7 : w.cell? ⟨R, oR + 7, none⟩ = some (.int .u16 5760)) (c8 : w.cell? ⟨R, oR + 8, none⟩ = some (.int .u16 5600)) (c9 : w.cell? ⟨R, oR + 9, none⟩ = some (.int .u16 8192)) (c10 : w.cell? ⟨R, oR + 10, none⟩ = some (.int .u16 8202)) (c11 : w.cell? ⟨R, oR + 11, none⟩ = some (.int .u16 1)) (c12 : w.cell? ⟨R, oR + 12, none⟩ = some (.int .u16 8232)) (c13 : w.cell? ⟨R, oR + 13, none⟩ = some (.int .u16 8233)) (c14 : w.cell? ⟨R, oR + 14, none⟩ = some (.int .u16 1)) (c15 : w.cell? ⟨R, oR + 15, none⟩ = some (.int .u16 8239)) (c16 : w.cell? ⟨R, oR + 16, none⟩ = some (.int .u16 8287)) (c17 : w.cell? ⟨R, oR + 17, none⟩ = some (.int .u16 48)) (c18 : w.cell? ⟨R, oR + 18, none⟩ = some (.int .u16 12288)) (c19 : w.cell? ⟨R, oR + 19, none⟩ = some (.int .u16 12288)) (c20 : w.cell? ⟨R, oR + 20, none⟩ = some (.int .u16 1)) :
    Calls Tryz.prog 95 #[.slice (some ⟨R, oR + 6, none⟩) 5 5, .int .u16 z] w fun e w' => e = .returned (.bool (Lib.isSpaceR z)) ∧ Below w.heap.size w w' := Any.unicode_is16_white Tryz.lays311 R oR z w hz hz0 c6 c7 c8 c9 c10 c11 c12 c13 c14 c15 c16 c17 c18 c19 c20
def Tryz.lays261_ren : Go.Shelf.Ren := ⟨fun | 261 => 77 | 311 => 95 | 312 => 96 | n => n, fun | 141 => 97 | 21 => 21 | 4 => 4 | 0 => 0 | 196 => 121 | 193 => 118 | 3 => 3 | 51 => 95 | 198 => 124 | 49 => 122 | 194 => 119 | 201 => 127 | 226 => 139 | 46 => 50 | 227 => 140 | n => n, fun | n => n⟩
theorem Tryz.lays261 : Go.Proofs.Lays.n261 Tryz.prog Tryz.lays261_ren := {
  mixed := by kernel_rfl
  f261 := Tryz.func77.trans (congrArg some (by kernel_rfl))
  f311 := Tryz.func95.trans (congrArg some (by kernel_rfl))
  f312 := Tryz.func96.trans (congrArg some (by kernel_rfl))
  t0 := Tryz.underlying0
  a0 := Tryz.isAgg0
  z0 := Tryz.sizeOf0
  v0 := Tryz.zeroValue0
  t3 := Tryz.underlying3
  a3 := Tryz.isAgg3
  z3 := Tryz.sizeOf3
  v3 := Tryz.zeroValue3
  t4 := Tryz.underlying4
  a4 := Tryz.isAgg4
  z4 := Tryz.sizeOf4
  v4 := Tryz.zeroValue4
  t21 := Tryz.underlying21
  a21 := Tryz.isAgg21
  z21 := Tryz.sizeOf21
  v21 := Tryz.zeroValue21
  t46 := Tryz.underlying50
  a46 := Tryz.isAgg50
  z46 := Tryz.sizeOf50
  v46 := Tryz.zeroValue50
  t49 := Tryz.underlying122
  a49 := Tryz.isAgg122
  z49 := Tryz.sizeOf122
  v49 := Tryz.zeroValue122
  t51 := Tryz.underlying95
  a51 := Tryz.isAgg95
  z51 := Tryz.sizeOf95
  v51 := Tryz.zeroValue95
  t141 := Tryz.underlying97
  a141 := Tryz.isAgg97
  z141 := Tryz.sizeOf97
  v141 := Tryz.zeroValue97
  t193 := Tryz.underlying118
  a193 := Tryz.isAgg118
  z193 := Tryz.sizeOf118
  v193 := Tryz.zeroValue118
  t194 := Tryz.underlying119
  a194 := Tryz.isAgg119
  z194 := Tryz.sizeOf119
  v194 := Tryz.zeroValue119
  t196 := Tryz.underlying121
  a196 := Tryz.isAgg121
  z196 := Tryz.sizeOf121
  v196 := Tryz.zeroValue121
  t198 := Tryz.underlying124
  a198 := Tryz.isAgg124
  z198 := Tryz.sizeOf124
  v198 := Tryz.zeroValue124
  t201 := Tryz.underlying127
  a201 := Tryz.isAgg127
  z201 := Tryz.sizeOf127
  v201 := Tryz.zeroValue127
  t226 := Tryz.underlying139
  a226 := Tryz.isAgg139
  z226 := Tryz.sizeOf139
  v226 := Tryz.zeroValue139
  t227 := Tryz.underlying140
  a227 := Tryz.isAgg140
  z227 := Tryz.sizeOf140
  v227 := Tryz.zeroValue140 }
open Go.RowKit Go.Lib in
/-- unicode.isExcludingLatin(White_Space, r), r beyond U+00FF or negative. (LAID: no walk: one application.) -/
theorem Tryz.unicode_isExcludingLatin_white (T oT R oR : Nat) (r : Int) (w : World) (hlo : -2147483648 ≤ r) (hhi : r ≤ 2147483647) (hr : r < 0 ∨ 255 < r) (h2 : w.cell? ⟨T, oT, none⟩ = some (.slice (some ⟨R, oR, none⟩) 7 7)) (h3 : w.cell? ⟨T, oT + 1, none⟩ = some (.slice none 0 0)) (h4 : w.cell? ⟨T, oT + 2, none⟩ = some (.int .i64 2)) (h5 : ∀ i, i < 21 → w.cell? ⟨R, oR + i, none⟩ = some (.int .u16 (whiteT.getD i 0))) :
    Calls Tryz.prog 77 #[.pointer (some ⟨T, oT, none⟩), .int .i32 r] w fun e w' => e = .returned (.bool (Lib.isSpaceZ r)) ∧ Below w.heap.size w w' := Any.unicode_isExcludingLatin_white Tryz.lays261 T oT R oR r w hlo hhi hr h2 h3 h4 h5
open Go.RowKit Go.Lib in
/-- **unicode.IsSpace AT EVERY int32.** (LAID: no walk: one application.) -/
theorem Tryz.unicode_IsSpace_any (r : Int) (w : World) (hlo : -2147483648 ≤ r) (hhi : r ≤ 2147483647) (hW : Lib.WhiteTab 1 w) :
    Calls Tryz.prog 62 #[.int .i32 r] w fun e w' => e = .returned (.bool (Lib.isSpaceZ r)) ∧ Below w.heap.size w w' := Any.unicode_IsSpace_any Tryz.lays199 r w hlo hhi hW
def Tryz.lays274_ren : Go.Shelf.Ren := ⟨fun | 274 => 109 | n => n, fun | 21 => 21 | 162 => 138 | 160 => 142 | 3 => 3 | 4 => 4 | 46 => 50 | 0 => 0 | 208 => 150 | 51 => 95 | 206 => 148 | n => n, fun | n => n⟩
theorem Tryz.lays274 : Go.Proofs.Lays.n274 Tryz.prog Tryz.lays274_ren := {
  mixed := by kernel_rfl
  f274 := Tryz.func109.trans (congrArg some (by kernel_rfl))
  t0 := Tryz.underlying0
  a0 := Tryz.isAgg0
  z0 := Tryz.sizeOf0
  v0 := Tryz.zeroValue0
  t3 := Tryz.underlying3
  a3 := Tryz.isAgg3
  z3 := Tryz.sizeOf3
  v3 := Tryz.zeroValue3
  t4 := Tryz.underlying4
  a4 := Tryz.isAgg4
  z4 := Tryz.sizeOf4
  v4 := Tryz.zeroValue4
  t21 := Tryz.underlying21
  a21 := Tryz.isAgg21
  z21 := Tryz.sizeOf21
  v21 := Tryz.zeroValue21
  t46 := Tryz.underlying50
  a46 := Tryz.isAgg50
  z46 := Tryz.sizeOf50
  v46 := Tryz.zeroValue50
  t51 := Tryz.underlying95
  a51 := Tryz.isAgg95
  z51 := Tryz.sizeOf95
  v51 := Tryz.zeroValue95
  t160 := Tryz.underlying142
  a160 := Tryz.isAgg142
  z160 := Tryz.sizeOf142
  v160 := Tryz.zeroValue142
  t162 := Tryz.underlying138
  a162 := Tryz.isAgg138
  z162 := Tryz.sizeOf138
  v162 := Tryz.zeroValue138
  t208 := Tryz.underlying150
  a208 := Tryz.isAgg150
  z208 := Tryz.sizeOf150
  v208 := Tryz.zeroValue150 }
open Go.RowKit Go.Lib in
theorem Tryz.unicode_lookupCaseRange (T : Array CaseRow) (R oR cap : Nat) (r : Int) (w : World) (hT : CaseTab R oR T w) (hok : CaseOk T) (hn : T.size ≤ 1000000000) :
    Calls Tryz.prog 109 #[.int .i32 r, .slice (some ⟨R, oR, none⟩) T.size cap] w fun e w' =>
      e = .returned (match lookupIdx T r (T.size + 1) 0 T.size with | some i => .pointer (some ⟨R, oR + i * 5, none⟩) | none => .pointer none) ∧ w' = w := Any.unicode_lookupCaseRange Tryz.lays274 T R oR cap r w hT hok hn
def Tryz.lays275_ren : Go.Shelf.Ren := ⟨fun | 275 => 110 | n => n, fun | 3 => 3 | 21 => 21 | 160 => 142 | 0 => 0 | 208 => 150 | 206 => 148 | 4 => 4 | 51 => 95 | n => n, fun | n => n⟩
theorem Tryz.lays275 : Go.Proofs.Lays.n275 Tryz.prog Tryz.lays275_ren := {
  mixed := by kernel_rfl
  f275 := Tryz.func110.trans (congrArg some (by kernel_rfl))
  t0 := Tryz.underlying0
  a0 := Tryz.isAgg0
  z0 := Tryz.sizeOf0
  v0 := Tryz.zeroValue0
  t3 := Tryz.underlying3
  a3 := Tryz.isAgg3
  z3 := Tryz.sizeOf3
  v3 := Tryz.zeroValue3
  t4 := Tryz.underlying4
  a4 := Tryz.isAgg4
  z4 := Tryz.sizeOf4
  v4 := Tryz.zeroValue4
  t21 := Tryz.underlying21
  a21 := Tryz.isAgg21
  z21 := Tryz.sizeOf21
  v21 := Tryz.zeroValue21
  t51 := Tryz.underlying95
  a51 := Tryz.isAgg95
  z51 := Tryz.sizeOf95
  v51 := Tryz.zeroValue95
  t160 := Tryz.underlying142
  a160 := Tryz.isAgg142
  z160 := Tryz.sizeOf142
  v160 := Tryz.zeroValue142
  t206 := Tryz.underlying148
  a206 := Tryz.isAgg148
  z206 := Tryz.sizeOf148
  v206 := Tryz.zeroValue148
  t208 := Tryz.underlying150
  a208 := Tryz.isAgg150
  z208 := Tryz.sizeOf150
  v208 := Tryz.zeroValue150 }
open Go.RowKit Go.Lib in
theorem Tryz.unicode_convertCase (c : Nat) (hc : c < 3) (r : Int) (A o : Nat) (x : CaseRow) (w : World) (hlo : (x.1 : Int) ≤ r) (hhi : r ≤ (x.2.1 : Int)) (hH : x.2.1 < 2147483647) (c0 : w.cell? ⟨A, o, none⟩ = some (.int .u32 x.1)) (cD : w.cell? ⟨A, o + 2 + c, none⟩ = some (.int .i32 (x.delta c))) :
    Calls Tryz.prog 110 #[.int .i64 c, .int .i32 r, .pointer (some ⟨A, o, none⟩)] w fun e w' => e = .returned (.int .i32 (wrap32 (convertR c r x))) ∧ ∃ q, w' = w.drewN q := Any.unicode_convertCase Tryz.lays275 c hc r A o x w hlo hhi hH c0 cD
def Tryz.lays313_ren : Go.Shelf.Ren := ⟨fun | 313 => 105 | 274 => 109 | 275 => 110 | n => n, fun | 3 => 3 | 21 => 21 | 162 => 138 | 4 => 4 | 160 => 142 | 46 => 50 | 0 => 0 | 208 => 150 | 51 => 95 | 206 => 148 | n => n, fun | n => n⟩
theorem Tryz.lays313 : Go.Proofs.Lays.n313 Tryz.prog Tryz.lays313_ren := {
  mixed := by kernel_rfl
  f274 := Tryz.func109.trans (congrArg some (by kernel_rfl))
  f275 := Tryz.func110.trans (congrArg some (by kernel_rfl))
  f313 := Tryz.func105.trans (congrArg some (by kernel_rfl))
  t0 := Tryz.underlying0
  a0 := Tryz.isAgg0
  z0 := Tryz.sizeOf0
  v0 := Tryz.zeroValue0
  t3 := Tryz.underlying3
  a3 := Tryz.isAgg3
  z3 := Tryz.sizeOf3
  v3 := Tryz.zeroValue3
  t4 := Tryz.underlying4
  a4 := Tryz.isAgg4
  z4 := Tryz.sizeOf4
  v4 := Tryz.zeroValue4
  t21 := Tryz.underlying21
  a21 := Tryz.isAgg21
  z21 := Tryz.sizeOf21
  v21 := Tryz.zeroValue21
  t46 := Tryz.underlying50
  a46 := Tryz.isAgg50
  z46 := Tryz.sizeOf50
  v46 := Tryz.zeroValue50
  t51 := Tryz.underlying95
  a51 := Tryz.isAgg95
  z51 := Tryz.sizeOf95
  v51 := Tryz.zeroValue95
  t160 := Tryz.underlying142
  a160 := Tryz.isAgg142
  z160 := Tryz.sizeOf142
  v160 := Tryz.zeroValue142
  t162 := Tryz.underlying138
  a162 := Tryz.isAgg138
  z162 := Tryz.sizeOf138
  v162 := Tryz.zeroValue138
  t206 := Tryz.underlying148
  a206 := Tryz.isAgg148
  z206 := Tryz.sizeOf148
  v206 := Tryz.zeroValue148
  t208 := Tryz.underlying150
  a208 := Tryz.isAgg150
  z208 := Tryz.sizeOf150
  v208 := Tryz.zeroValue150 }
open Go.RowKit Go.Lib in
theorem Tryz.unicode_to (c : Nat) (hc : c < 3) (r : Int) (T : Array CaseRow) (R oR cap : Nat) (w : World) (hT : CaseTab R oR T w) (hok : CaseOk2 T) (hn : T.size ≤ 1000000000) :
    Calls Tryz.prog 105 #[.int .i64 c, .int .i32 r, .slice (some ⟨R, oR, none⟩) T.size cap] w fun e w' => e = .returned (.tuple #[.int .i32 (toW T c r), .bool (lookupIdx T r (T.size + 1) 0 T.size).isSome]) ∧ ∃ q, w' = w.drewN q := Any.unicode_to Tryz.lays313 c hc r T R oR cap w hT hok hn
def Tryz.lays262_ren : Go.Shelf.Ren := ⟨fun | 262 => 91 | 313 => 105 | 274 => 109 | 275 => 110 | n => n, fun | 3 => 3 | 21 => 21 | 162 => 138 | 203 => 136 | 4 => 4 | 160 => 142 | 46 => 50 | 0 => 0 | 208 => 150 | 51 => 95 | 206 => 148 | n => n, fun | 13 => 6 | n => n⟩
theorem Tryz.lays262 : Go.Proofs.Lays.n262 Tryz.prog Tryz.lays262_ren := {
  mixed := by kernel_rfl
  f262 := Tryz.func91.trans (congrArg some (by kernel_rfl))
  f274 := Tryz.func109.trans (congrArg some (by kernel_rfl))
  f275 := Tryz.func110.trans (congrArg some (by kernel_rfl))
  f313 := Tryz.func105.trans (congrArg some (by kernel_rfl))
  t0 := Tryz.underlying0
  a0 := Tryz.isAgg0
  z0 := Tryz.sizeOf0
  v0 := Tryz.zeroValue0
  t3 := Tryz.underlying3
  a3 := Tryz.isAgg3
  z3 := Tryz.sizeOf3
  v3 := Tryz.zeroValue3
  t4 := Tryz.underlying4
  a4 := Tryz.isAgg4
  z4 := Tryz.sizeOf4
  v4 := Tryz.zeroValue4
  t21 := Tryz.underlying21
  a21 := Tryz.isAgg21
  z21 := Tryz.sizeOf21
  v21 := Tryz.zeroValue21
  t46 := Tryz.underlying50
  a46 := Tryz.isAgg50
  z46 := Tryz.sizeOf50
  v46 := Tryz.zeroValue50
  t51 := Tryz.underlying95
  a51 := Tryz.isAgg95
  z51 := Tryz.sizeOf95
  v51 := Tryz.zeroValue95
  t160 := Tryz.underlying142
  a160 := Tryz.isAgg142
  z160 := Tryz.sizeOf142
  v160 := Tryz.zeroValue142
  t162 := Tryz.underlying138
  a162 := Tryz.isAgg138
  z162 := Tryz.sizeOf138
  v162 := Tryz.zeroValue138
  t203 := Tryz.underlying136
  a203 := Tryz.isAgg136
  z203 := Tryz.sizeOf136
  v203 := Tryz.zeroValue136
  t206 := Tryz.underlying148
  a206 := Tryz.isAgg148
  z206 := Tryz.sizeOf148
  v206 := Tryz.zeroValue148
  t208 := Tryz.underlying150
  a208 := Tryz.isAgg150
  z208 := Tryz.sizeOf150
  v208 := Tryz.zeroValue150
  g13 := by kernel_rfl }
open Go.RowKit Go.Lib in
theorem Tryz.unicode_To (c : Nat) (hc : c < 3) (r : Int) (T : Array CaseRow) (w : World) (hV : CaseVar 6 T w) (hok : CaseOk2 T) (hn : T.size ≤ 1000000000) :
    Calls Tryz.prog 91 #[.int .i64 c, .int .i32 r] w fun e w' => e = .returned (.int .i32 (toW T c r)) ∧ ∃ q, w' = w.drewN q := Any.unicode_To Tryz.lays262 c hc r T w hV hok hn
open Go.RowKit Go.Lib in
theorem Tryz.unicode_ToUpper_any (r : Int) (T : Array CaseRow) (w : World) (hV : CaseVar 6 T w) (hok : CaseOk2 T) (hn : T.size ≤ 1000000000) :
    Calls Tryz.prog 73 #[.int .i32 r] w fun e w' => e = .returned (.int .i32 (Lib.toUpperW T r)) ∧ ∃ q, w' = w.drewN q := Any.unicode_ToUpper_any Tryz.lays203 r T w hV hok hn
open Go.RowKit Go.Lib in
theorem Tryz.unicode_ToUpper_laid (r : Int) (w : World) (hV : CaseVar 6 caseA w) :
    Calls Tryz.prog 73 #[.int .i32 r] w fun e w' => e = .returned (.int .i32 (toUpperU r)) ∧ ∃ q, w' = w.drewN q := Any.unicode_ToUpper_laid Tryz.lays203 r w hV
open Go.RowKit Go.Lib in
theorem Tryz.unicode_is16_any (T : Array Rg) (R oR cap : Nat) (z : Nat) (w : World) (hz : z < 65536) (hT : RgTab .u16 R oR T w) (hok : RgOk 65536 T) (hn : T.size ≤ 1000000000) :
    Calls Tryz.prog 95 #[.slice (some ⟨R, oR, none⟩) T.size cap, .int .u16 z] w fun e w' => e = .returned (.bool (is16Go T z)) ∧ ∃ q, w' = w.drewN q := Any.unicode_is16_any Tryz.lays311 T R oR cap z w hz hT hok hn
def Tryz.lays312_ren : Go.Shelf.Ren := ⟨fun | 312 => 96 | n => n, fun | 194 => 119 | 51 => 95 | 4 => 4 | 3 => 3 | 0 => 0 | 227 => 140 | 201 => 127 | 46 => 50 | n => n, fun | n => n⟩
theorem Tryz.lays312 : Go.Proofs.Lays.n312 Tryz.prog Tryz.lays312_ren := {
  mixed := by kernel_rfl
  f312 := Tryz.func96.trans (congrArg some (by kernel_rfl))
  t0 := Tryz.underlying0
  a0 := Tryz.isAgg0
  z0 := Tryz.sizeOf0
  v0 := Tryz.zeroValue0
  t3 := Tryz.underlying3
  a3 := Tryz.isAgg3
  z3 := Tryz.sizeOf3
  v3 := Tryz.zeroValue3
  t4 := Tryz.underlying4
  a4 := Tryz.isAgg4
  z4 := Tryz.sizeOf4
  v4 := Tryz.zeroValue4
  t46 := Tryz.underlying50
  a46 := Tryz.isAgg50
  z46 := Tryz.sizeOf50
  v46 := Tryz.zeroValue50
  t51 := Tryz.underlying95
  a51 := Tryz.isAgg95
  z51 := Tryz.sizeOf95
  v51 := Tryz.zeroValue95
  t194 := Tryz.underlying119
  a194 := Tryz.isAgg119
  z194 := Tryz.sizeOf119
  v194 := Tryz.zeroValue119
  t201 := Tryz.underlying127
  a201 := Tryz.isAgg127
  z201 := Tryz.sizeOf127
  v201 := Tryz.zeroValue127
  t227 := Tryz.underlying140
  a227 := Tryz.isAgg140
  z227 := Tryz.sizeOf140
  v227 := Tryz.zeroValue140 }
open Go.RowKit Go.Lib in
theorem Tryz.unicode_is32_any (T : Array Rg) (R oR cap : Nat) (z : Nat) (w : World) (hz : z < 4294967296) (hT : RgTab .u32 R oR T w) (hok : RgOk 4294967296 T) (hn : T.size ≤ 1000000000) :
    Calls Tryz.prog 96 #[.slice (some ⟨R, oR, none⟩) T.size cap, .int .u32 z] w fun e w' => e = .returned (.bool (is32Go T z)) ∧ Below w.heap.size w w' := Any.unicode_is32_any Tryz.lays312 T R oR cap z w hz hT hok hn
open Go.RowKit Go.Lib in
theorem Tryz.unicode_isExcludingLatin_any (Tb oT : Nat) (T : RTab) (r : Int) (w : World) (hlo : -2147483648 ≤ r) (hhi : r ≤ 2147483647) (hA : RTabAt Tb oT T w) (hok : RTabOk T) :
    Calls Tryz.prog 77 #[.pointer (some ⟨Tb, oT, none⟩), .int .i32 r] w fun e w' => e = .returned (.bool (exclGo T r)) ∧ Below w.heap.size w w' := Any.unicode_isExcludingLatin_any Tryz.lays261 Tb oT T r w hlo hhi hA hok
end Go.Proofs
