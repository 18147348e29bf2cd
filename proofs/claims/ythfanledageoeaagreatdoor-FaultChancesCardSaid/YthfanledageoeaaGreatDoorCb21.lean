/- DERIVED: THE SHELF's CONTRACTS AT THIS DUMP, IN PLAIN WORDS (tools/lay-plain.mjs out of 'TryzShelf.lean', which tools/lay-shelf.mjs wrote): THE SAME DECLARATIONS UNDER THE SAME NAMES: 'import', 'namespace', 'open', 'def', 'theorem' AND NOTHING ELSE: no command of the shelf's: FOR A HAND-IN. Each laying: the table of numbers ('.._ren') and one theorem, a field a fact of the dump's own or the kernel's comparison; each contract: ONE APPLICATION. Contract: the numbers that are written in the bits of a number. What the listed tables give; small facts on the program for the rows. -/
import Derived.Ground.Names7Prog
import Derived.Ground.SlsfProg
import Derived.Shelf.Spec.TrailingZeros
import Derived.Shelf.SlSortCmp.Whole1
import Derived.Shelf.SlGeneric
import Derived.Shelf.Strings.Builder1
import Derived.Shelf.Strings.Builder2
import Derived.Shelf.Strings.OnBuilder
import Derived.Shelf.Small.Bits
import Derived.Shelf.Small.Wraps
import Derived.Shelf.Strings.BuilderF
import Derived.Shelf.Strings.BuilderK
import Derived.Shelf.Strings.Builder2Cap
import Derived.Shelf.Strconv.Itoa0
import Derived.Shelf.Strconv.Itoa1
import Derived.Shelf.LaysM
import Derived.Shelf.Strconv.Itoa2
import Derived.Shelf.Strconv.Itoa3
import Derived.Shelf.Strings.BuilderCap
import Derived.Shelf.Slices.Turned
import Derived.Ground.Names2Prog
import Derived.Shelf.Slices.Clone
import Derived.Shelf.Slices.SearchI
import Derived.Ground.SlgnProg
import Derived.Shelf.SlicesE.Clone
import Derived.Test.YthfanledageoeaaGreatDoorProg
import Derived.Test.YthfanledageoeaaGreatDoorCb20
import Derived.Test.YthfanledageoeaaGreatDoorCb01
import Derived.Test.YthfanledageoeaaGreatDoorRows
import Derived.Test.YthfanledageoeaaGreatDoorTie
import Derived.Test.YthfanledageoeaaGreatDoorCards
import Derived.ProofKit
import Derived.OpenShut
import Derived.LaidMore
import Derived.Lay
import Derived.Lib.LaidTab
import Derived.SevenTiedAt
import Derived.Stop.Joined
set_option linter.unusedVariables false
set_option linter.unusedSimpArgs false
set_option linter.constructorNameAsVariable false
namespace Go.Proofs
open Go.Shelf
open Go.RowKit in
open Go.RowKit in
open Go.RowKit in
open Go.RowKit in
open Go.RowKit in
def Tryz.lays156_ren : Go.Shelf.Ren := ⟨fun | 156 => 115 | 165 => 139 | 166 => 140 | 169 => 141 | 240 => 154 | 241 => 155 | 276 => 170 | 277 => 171 | n => n, fun | 31 => 158 | 9 => 9 | 3 => 3 | 4 => 4 | 0 => 0 | 20 => 20 | 72 => 191 | 76 => 195 | 70 => 188 | 37 => 189 | 75 => 194 | 127 => 205 | 164 => 214 | 5 => 5 | 80 => 197 | n => n, fun | n => n⟩
theorem Tryz.lays156 : Go.Proofs.Lays.n156 Tryz.prog Tryz.lays156_ren := {
 mixed := by kernel_rfl
 f156 := Tryz.func115.trans (congrArg some (by kernel_rfl))
 f165 := Tryz.func139.trans (congrArg some (by kernel_rfl))
 f166 := Tryz.func140.trans (congrArg some (by kernel_rfl))
 f169 := Tryz.func141.trans (congrArg some (by kernel_rfl))
 f240 := Tryz.func154.trans (congrArg some (by kernel_rfl))
 f241 := Tryz.func155.trans (congrArg some (by kernel_rfl))
 f276 := Tryz.func170.trans (congrArg some (by kernel_rfl))
 f277 := Tryz.func171.trans (congrArg some (by kernel_rfl))
 t0 := Tryz.underlying0
 a0 := Tryz.isAgg0
 z0 := Tryz.sizeOf0
 v0 := Tryz.zeroValue0
 t3 := Tryz.underlying3
 a3 := Tryz.isAgg3
 z3 := Tryz.sizeOf3
 v3 := Tryz.zeroValue3
 t4 := Tryz.underlying4
 a4 := Tryz.isAgg4
 z4 := Tryz.sizeOf4
 v4 := Tryz.zeroValue4
 t9 := Tryz.underlying9
 a9 := Tryz.isAgg9
 z9 := Tryz.sizeOf9
 v9 := Tryz.zeroValue9
 t20 := Tryz.underlying20
 a20 := Tryz.isAgg20
 z20 := Tryz.sizeOf20
 v20 := Tryz.zeroValue20
 t31 := Tryz.underlying158
 a31 := Tryz.isAgg158
 z31 := Tryz.sizeOf158
 v31 := Tryz.zeroValue158
 t37 := Tryz.underlying189
 a37 := Tryz.isAgg189
 z37 := Tryz.sizeOf189
 v37 := Tryz.zeroValue189
 t70 := Tryz.underlying188
 a70 := Tryz.isAgg188
 z70 := Tryz.sizeOf188
 v70 := Tryz.zeroValue188
 t72 := Tryz.underlying191
 a72 := Tryz.isAgg191
 z72 := Tryz.sizeOf191
 v72 := Tryz.zeroValue191
 t75 := Tryz.underlying194
 a75 := Tryz.isAgg194
 z75 := Tryz.sizeOf194
 v75 := Tryz.zeroValue194
 t76 := Tryz.underlying195
 a76 := Tryz.isAgg195
 z76 := Tryz.sizeOf195
 v76 := Tryz.zeroValue195
 t127 := Tryz.underlying205
 a127 := Tryz.isAgg205
 z127 := Tryz.sizeOf205
 v127 := Tryz.zeroValue205
 t164 := Tryz.underlying214
 a164 := Tryz.isAgg214
 z164 := Tryz.sizeOf214
 v164 := Tryz.zeroValue214 }
theorem Tryz.Builder_Extra_156 : Builder.Extra Tryz.prog Tryz.lays156_ren := {
 sizeBuilder := by kernel_rfl
 liesBuilder := by kernel_rfl
 t5 := Tryz.underlying5
 a5 := Tryz.isAgg5
 z5 := Tryz.sizeOf5
 v5 := Tryz.zeroValue5
 infoByte := by kernel_rfl
 cellsByte := by kernel_rfl
 sizeByte := by kernel_rfl
 neB5 := by decide }
open Go.RowKit in
open Go.RowKit in
/-- strings.Join: "Join concatenates the elements of its first argument to create a single string. The separator string sep is placed between elements in the resulting string.": HOWEVER MANY ELEMENTS. Below the heap's end the world is as it was. (LAID: no walk: one application.) -/
theorem Tryz.strings_Join (bk o c : Nat) (xs : List ByteArray) (sep : ByteArray) (w : World) (hcells : ∀ (j : Nat) x, xs[j]? = some x → w.cell? ⟨bk, o + j, none⟩ = some (.string x)) (hbk : bk < w.heap.size) (hN : xs.length ≤ 140737488355328) (hcap : xs.length ≤ c) (hlen : (Lib.join (xs.map (·.data.toList)) sep.data.toList).length ≤ 140737488355328) :
    Calls Tryz.prog 115 #[.slice (some ⟨bk, o, none⟩) xs.length c, .string sep] w fun e w' => e = .returned (.string ⟨(Lib.join (xs.map (·.data.toList)) sep.data.toList).toArray⟩) ∧ Below w.heap.size w w' := Any.strings_Join Tryz.lays156 Tryz.Builder_Extra_156 bk o c xs sep w hcells hbk hN hcap hlen
def Tryz.lays125_ren : Go.Shelf.Ren := ⟨fun | 125 => 149 | 128 => 167 | 129 => 168 | n => n, fun | 46 => 186 | 3 => 3 | 51 => 202 | 53 => 204 | 4 => 4 | 5 => 5 | 9 => 9 | n => n, fun | n => n⟩
theorem Tryz.lays125 : Go.Proofs.Lays.n125 Tryz.prog Tryz.lays125_ren := {
 mixed := by kernel_rfl
 f125 := Tryz.func149.trans (congrArg some (by kernel_rfl))
 f128 := Tryz.func167.trans (congrArg some (by kernel_rfl))
 f129 := Tryz.func168.trans (congrArg some (by kernel_rfl))
 t3 := Tryz.underlying3
 a3 := Tryz.isAgg3
 z3 := Tryz.sizeOf3
 v3 := Tryz.zeroValue3
 t4 := Tryz.underlying4
 a4 := Tryz.isAgg4
 z4 := Tryz.sizeOf4
 v4 := Tryz.zeroValue4
 t5 := Tryz.underlying5
 a5 := Tryz.isAgg5
 z5 := Tryz.sizeOf5
 v5 := Tryz.zeroValue5
 t9 := Tryz.underlying9
 a9 := Tryz.isAgg9
 z9 := Tryz.sizeOf9
 v9 := Tryz.zeroValue9
 t46 := Tryz.underlying186
 a46 := Tryz.isAgg186
 z46 := Tryz.sizeOf186
 v46 := Tryz.zeroValue186
 t51 := Tryz.underlying202
 a51 := Tryz.isAgg202
 z51 := Tryz.sizeOf202
 v51 := Tryz.zeroValue202
 t53 := Tryz.underlying204
 a53 := Tryz.isAgg204
 z53 := Tryz.sizeOf204
 v53 := Tryz.zeroValue204 }
/-- bits.Len: "Len returns the minimum number of bits required to represent x; the result is 0 for x == 0.": IT RETURNS 'Lib.bitLen x'; the world is as it was. (A uint has 64 bits in the model.) ITS CALLEE bits.Len64 IS MET BY ITS OWN CONTRACT OFF THE SHELF (lay that first). (LAID: no walk: one application.) -/
theorem Tryz.bits_Len (x : Int) (w : World) (h0 : 0 ≤ x) (h1 : x ≤ 18446744073709551615) :
    Calls Tryz.prog 149 #[.int .u64 x] w fun e w' => e = .returned (.int .i64 (Lib.bitLen x.toNat)) ∧ w' = w := Any.bits_Len Tryz.lays125 x w h0 h1
open Go.RowKit in
open Go.RowKit in
open Go.RowKit in
open Go.RowKit in
open Go.RowKit in
open Go.RowKit in
open Go.RowKit in
open Go.RowKit in
open Go.RowKit in
open Go.RowKit in
open Go.Lib in
open Go.Lib in
open Go.Lib in
open Go.Lib in
open Go.RowKit Go.Sort Go.Lib in
open Go.RowKit Go.Sort Go.Lib in
open Go.RowKit Go.Sort Go.Lib in
open Go.RowKit Go.Sort Go.Lib in
open Go.RowKit Go.Sort Go.Lib in
open Go.RowKit Go.Sort Go.Lib in
def Tryz.lays171_ren : Go.Shelf.Ren := ⟨fun | 171 => 143 | 243 => 156 | 246 => 172 | 283 => 179 | 284 => 180 | 285 => 181 | 286 => 182 | 129 => 168 | 317 => 184 | 318 => 185 | 319 => 186 | 320 => 147 | 337 => 157 | 338 => 158 | n => n, fun | 3 => 3 | 9 => 9 | 2 => 2 | 4 => 4 | 171 => 226 | 0 => 0 | 53 => 204 | 37 => 189 | 5 => 5 | 173 => 228 | 212 => 234 | 51 => 202 | 20 => 20 | 213 => 235 | 46 => 186 | 232 => 218 | 233 => 219 | n => n, fun | 17 => 3 | 18 => 0 | 19 => 1 | n => n⟩
theorem Tryz.lays171 : Go.Proofs.Lays.n171 Tryz.prog Tryz.lays171_ren := {
 mixed := by kernel_rfl
 f129 := Tryz.func168.trans (congrArg some (by kernel_rfl))
 f171 := Tryz.func143.trans (congrArg some (by kernel_rfl))
 f243 := Tryz.func156.trans (congrArg some (by kernel_rfl))
 f246 := Tryz.func172.trans (congrArg some (by kernel_rfl))
 f283 := Tryz.func179.trans (congrArg some (by kernel_rfl))
 f284 := Tryz.func180.trans (congrArg some (by kernel_rfl))
 f285 := Tryz.func181.trans (congrArg some (by kernel_rfl))
 f286 := Tryz.func182.trans (congrArg some (by kernel_rfl))
 f317 := Tryz.func184.trans (congrArg some (by kernel_rfl))
 f318 := Tryz.func185.trans (congrArg some (by kernel_rfl))
 f319 := Tryz.func186.trans (congrArg some (by kernel_rfl))
 f320 := Tryz.func147.trans (congrArg some (by kernel_rfl))
 f337 := Tryz.func157.trans (congrArg some (by kernel_rfl))
 f338 := Tryz.func158.trans (congrArg some (by kernel_rfl))
 t0 := Tryz.underlying0
 a0 := Tryz.isAgg0
 z0 := Tryz.sizeOf0
 v0 := Tryz.zeroValue0
 t2 := Tryz.underlying2
 a2 := Tryz.isAgg2
 z2 := Tryz.sizeOf2
 v2 := Tryz.zeroValue2
 t3 := Tryz.underlying3
 a3 := Tryz.isAgg3
 z3 := Tryz.sizeOf3
 v3 := Tryz.zeroValue3
 t4 := Tryz.underlying4
 a4 := Tryz.isAgg4
 z4 := Tryz.sizeOf4
 v4 := Tryz.zeroValue4
 t5 := Tryz.underlying5
 a5 := Tryz.isAgg5
 z5 := Tryz.sizeOf5
 v5 := Tryz.zeroValue5
 t9 := Tryz.underlying9
 a9 := Tryz.isAgg9
 z9 := Tryz.sizeOf9
 v9 := Tryz.zeroValue9
 t20 := Tryz.underlying20
 a20 := Tryz.isAgg20
 z20 := Tryz.sizeOf20
 v20 := Tryz.zeroValue20
 t37 := Tryz.underlying189
 a37 := Tryz.isAgg189
 z37 := Tryz.sizeOf189
 v37 := Tryz.zeroValue189
 t46 := Tryz.underlying186
 a46 := Tryz.isAgg186
 z46 := Tryz.sizeOf186
 v46 := Tryz.zeroValue186
 t51 := Tryz.underlying202
 a51 := Tryz.isAgg202
 z51 := Tryz.sizeOf202
 v51 := Tryz.zeroValue202
 t53 := Tryz.underlying204
 a53 := Tryz.isAgg204
 z53 := Tryz.sizeOf204
 v53 := Tryz.zeroValue204
 t171 := Tryz.underlying226
 a171 := Tryz.isAgg226
 z171 := Tryz.sizeOf226
 v171 := Tryz.zeroValue226
 t173 := Tryz.underlying228
 a173 := Tryz.isAgg228
 z173 := Tryz.sizeOf228
 v173 := Tryz.zeroValue228
 t212 := Tryz.underlying234
 a212 := Tryz.isAgg234
 z212 := Tryz.sizeOf234
 v212 := Tryz.zeroValue234
 t213 := Tryz.underlying235
 a213 := Tryz.isAgg235
 z213 := Tryz.sizeOf235
 t232 := Tryz.underlying218
 a232 := Tryz.isAgg218
 z232 := Tryz.sizeOf218
 v232 := Tryz.zeroValue218
 t233 := Tryz.underlying219
 a233 := Tryz.isAgg219
 z233 := Tryz.sizeOf219
 v233 := Tryz.zeroValue219
 g17 := by kernel_rfl
 g18 := by kernel_rfl
 g19 := by kernel_rfl }
open Go.RowKit Go.Sort Go.Lib in
/-- THE ROAD WITHOUT THE TABLE: 0 <= i < 100: NO PREMISE ON THE WORLD, AND THE WORLD IS AS IT WAS: a row that keeps its argument in that range need list no table ('laid = []'). (LAID: no walk: one application.) -/
theorem Tryz.strconv_Itoa_small (i : Nat) (hi : i < 100) (w : World) :
    Calls Tryz.prog 143 #[.int .i64 i] w fun e w' => e = .returned (.string ⟨(Lib.decDigits i).toArray⟩) ∧ w' = w := Any.strconv_Itoa_small Tryz.lays171 i hi w
open Go.Lib in
open Go.Lib in
open Go.Lib in
open Go.Lib in
def Tryz.laysNm215_ren : Go.Shelf.Ren := ⟨fun | 15 => 138 | n => n, fun | 22 => 39 | 3 => 3 | 4 => 4 | n => n, fun | n => n⟩
theorem Tryz.laysNm215 : Go.Proofs.Lays2.n15 Tryz.prog Tryz.laysNm215_ren := {
 mixed := by kernel_rfl
 f15 := Tryz.func138.trans (congrArg some (by kernel_rfl))
 t3 := Tryz.underlying3
 a3 := Tryz.isAgg3
 z3 := Tryz.sizeOf3
 v3 := Tryz.zeroValue3
 t4 := Tryz.underlying4
 a4 := Tryz.isAgg4
 z4 := Tryz.sizeOf4
 v4 := Tryz.zeroValue4
 t22 := Tryz.underlying39
 a22 := Tryz.isAgg39
 z22 := Tryz.sizeOf39
 v22 := Tryz.zeroValue39
 i3 := by kernel_rfl }
open Go.RowKit Go.Lib in
/-- slices.Clone at []int: "Clone returns a copy of the slice. The elements are copied using assignment, so this is a shallow clone. The result may have additional unused capacity. The result preserves the nilness of s.": OF A SLICE THAT IS NOT nil IT RETURNS A SLICE THAT IS NOT nil, OF THE SAME ELEMENTS, IN MEMORY OF THE CALL's OWN: in the how-to's words (6f): 'w'.ownsRow B e 1 v' n cells': v' begins at the head of a row among the blocks from B on (B: the heap's size at the call), not frozen, whose first cells are the elements · 'Below B w w'': below B all is as it was. The capacity is whatever the run-time gives. 'zs': what the cells behind the slice's address hold; 'zs.take n': its elements. (LAID: no walk: one application.) -/
theorem Tryz.slices_Clone_int (b off n c : Nat) (zs : List Int) (w : World) (hz : n ≤ zs.length) (hbig : n * 8 ≤ 140737488355328) (hc : ∀ j, j < zs.length → w.cell? ⟨b, off + j, none⟩ = some (.int .i64 (zs.getD j 0))) :
    Calls Tryz.prog 138 #[.slice (some ⟨b, off, none⟩) n c] w fun e w' => ∃ v', e = .returned v' ∧ w'.ownsRow w.heap.size 3 1 v' n ((zs.take n).map (Value.int .i64)) ∧ v' ≠ .slice none 0 0 ∧ Below w.heap.size w w' := Any.slices_Clone_int Tryz.laysNm215 b off n c zs w hz hbig hc
open Go.RowKit Go.Lib in
/-- The same at nil: nil comes back; the world is as it was. (LAID: no walk: one application.) -/
theorem Tryz.slices_Clone_int_nil (n c : Nat) (w : World) :
    Calls Tryz.prog 138 #[.slice none n c] w fun e w' => e = .returned (.slice none 0 0) ∧ w' = w := Any.slices_Clone_int_nil Tryz.laysNm215 n c w
open Go.RowKit Go.Lib in
/-- The same at a slice of length 0 that is not nil, WHATEVER ITS ADDRESS (no cell is asked for): a slice that is not nil and owns nothing comes back. (LAID: no walk: one application.) -/
theorem Tryz.slices_Clone_int_zero (a : Addr) (c : Nat) (w : World) :
    Calls Tryz.prog 138 #[.slice (some a) 0 c] w fun e w' => ∃ v', e = .returned v' ∧ w'.ownsRow w.heap.size 3 1 v' 0 [] ∧ v' ≠ .slice none 0 0 ∧ Below w.heap.size w w' := Any.slices_Clone_int_zero Tryz.laysNm215 a c w
open Go.RowKit Go.Lib in
open Go.RowKit Go.Lib in
open Go.RowKit Go.Lib in
def Tryz.sortSet_ren : Go.Shelf.Ren := ⟨fun | 6 => 123 | 15 => 149 | 14 => 148 | 28 => 167 | 29 => 168 | 20 => 159 | 21 => 160 | 22 => 161 | 23 => 162 | 24 => 163 | 25 => 164 | 26 => 165 | 27 => 166 | 46 => 173 | 47 => 174 | 48 => 175 | 49 => 176 | 50 => 177 | 57 => 183 | n => n, fun | 22 => 171 | 24 => 172 | 25 => 175 | 3 => 3 | 39 => 186 | 0 => 0 | 53 => 202 | 55 => 204 | 4 => 4 | 46 => 208 | 45 => 207 | 50 => 212 | 5 => 5 | 9 => 9 | 66 => 220 | 70 => 224 | 76 => 230 | 77 => 231 | n => n, fun | n => n⟩
theorem Tryz.sortSet : Go.Proofs.SlLaysF.n6 Tryz.prog Tryz.sortSet_ren := {
 mixed := by kernel_rfl
 f6 := ⟨Tryz.f123.name, by decide, Tryz.func123.trans (congrArg some (by kernel_rfl))⟩
 f14 := ⟨Tryz.f148.name, by decide, Tryz.func148.trans (congrArg some (by kernel_rfl))⟩
 f15 := Tryz.func149.trans (congrArg some (by kernel_rfl))
 f20 := ⟨Tryz.f159.name, by decide, Tryz.func159.trans (congrArg some (by kernel_rfl))⟩
 f21 := ⟨Tryz.f160.name, by decide, Tryz.func160.trans (congrArg some (by kernel_rfl))⟩
 f22 := ⟨Tryz.f161.name, by decide, Tryz.func161.trans (congrArg some (by kernel_rfl))⟩
 f23 := ⟨Tryz.f162.name, by decide, Tryz.func162.trans (congrArg some (by kernel_rfl))⟩
 f24 := ⟨Tryz.f163.name, by decide, Tryz.func163.trans (congrArg some (by kernel_rfl))⟩
 f25 := ⟨Tryz.f164.name, by decide, Tryz.func164.trans (congrArg some (by kernel_rfl))⟩
 f26 := ⟨Tryz.f165.name, by decide, Tryz.func165.trans (congrArg some (by kernel_rfl))⟩
 f27 := ⟨Tryz.f166.name, by decide, Tryz.func166.trans (congrArg some (by kernel_rfl))⟩
 f28 := Tryz.func167.trans (congrArg some (by kernel_rfl))
 f29 := Tryz.func168.trans (congrArg some (by kernel_rfl))
 f46 := ⟨Tryz.f173.name, by decide, Tryz.func173.trans (congrArg some (by kernel_rfl))⟩
 f47 := Tryz.func174.trans (congrArg some (by kernel_rfl))
 f48 := Tryz.func175.trans (congrArg some (by kernel_rfl))
 f49 := ⟨Tryz.f176.name, by decide, Tryz.func176.trans (congrArg some (by kernel_rfl))⟩
 f50 := ⟨Tryz.f177.name, by decide, Tryz.func177.trans (congrArg some (by kernel_rfl))⟩
 f57 := ⟨Tryz.f183.name, by decide, Tryz.func183.trans (congrArg some (by kernel_rfl))⟩
 t0 := Tryz.underlying0
 a0 := Tryz.isAgg0
 z0 := Tryz.sizeOf0
 v0 := Tryz.zeroValue0
 t3 := Tryz.underlying3
 a3 := Tryz.isAgg3
 z3 := Tryz.sizeOf3
 v3 := Tryz.zeroValue3
 t4 := Tryz.underlying4
 a4 := Tryz.isAgg4
 z4 := Tryz.sizeOf4
 v4 := Tryz.zeroValue4
 t5 := Tryz.underlying5
 a5 := Tryz.isAgg5
 z5 := Tryz.sizeOf5
 v5 := Tryz.zeroValue5
 t9 := Tryz.underlying9
 a9 := Tryz.isAgg9
 z9 := Tryz.sizeOf9
 v9 := Tryz.zeroValue9
 t22 := Tryz.underlying171
 a22 := Tryz.isAgg171
 z22 := Tryz.sizeOf171
 v22 := Tryz.zeroValue171
 a24 := Tryz.isAgg172
 z24 := Tryz.sizeOf172
 t25 := Tryz.underlying175
 a25 := Tryz.isAgg175
 z25 := Tryz.sizeOf175
 v25 := Tryz.zeroValue175
 t39 := Tryz.underlying186
 a39 := Tryz.isAgg186
 z39 := Tryz.sizeOf186
 v39 := Tryz.zeroValue186
 t45 := Tryz.underlying207
 a45 := Tryz.isAgg207
 z45 := Tryz.sizeOf207
 v45 := Tryz.zeroValue207
 t46 := Tryz.underlying208
 a46 := Tryz.isAgg208
 z46 := Tryz.sizeOf208
 v46 := Tryz.zeroValue208
 t50 := Tryz.underlying212
 a50 := Tryz.isAgg212
 z50 := Tryz.sizeOf212
 v50 := Tryz.zeroValue212
 t53 := Tryz.underlying202
 a53 := Tryz.isAgg202
 z53 := Tryz.sizeOf202
 v53 := Tryz.zeroValue202
 t55 := Tryz.underlying204
 a55 := Tryz.isAgg204
 z55 := Tryz.sizeOf204
 v55 := Tryz.zeroValue204
 t66 := Tryz.underlying220
 a66 := Tryz.isAgg220
 z66 := Tryz.sizeOf220
 v66 := Tryz.zeroValue220
 t70 := Tryz.underlying224
 a70 := Tryz.isAgg224
 z70 := Tryz.sizeOf224
 v70 := Tryz.zeroValue224
 t76 := Tryz.underlying230
 a76 := Tryz.isAgg230
 z76 := Tryz.sizeOf230
 v76 := Tryz.zeroValue230
 t77 := Tryz.underlying231
 a77 := Tryz.isAgg231
 z77 := Tryz.sizeOf231
 v77 := Tryz.zeroValue231 }
def Tryz.lays27t_ren : Go.Shelf.Ren := ⟨fun | 27 => 147 | 28 => 157 | 29 => 158 | n => n, fun | 25 => 186 | 3 => 3 | 27 => 202 | 22 => 204 | 4 => 4 | 53 => 218 | 0 => 0 | 5 => 5 | 54 => 219 | n => n, fun | 0 => 0 | 1 => 1 | n => n⟩
theorem Tryz.lays27t : Go.Proofs.Lays7.n27 Tryz.prog Tryz.lays27t_ren := {
 mixed := by kernel_rfl
 f27 := Tryz.func147.trans (congrArg some (by kernel_rfl))
 f28 := Tryz.func157.trans (congrArg some (by kernel_rfl))
 f29 := Tryz.func158.trans (congrArg some (by kernel_rfl))
 t0 := Tryz.underlying0
 a0 := Tryz.isAgg0
 z0 := Tryz.sizeOf0
 v0 := Tryz.zeroValue0
 i0 := by kernel_rfl
 t3 := Tryz.underlying3
 a3 := Tryz.isAgg3
 z3 := Tryz.sizeOf3
 v3 := Tryz.zeroValue3
 i3 := by kernel_rfl
 t4 := Tryz.underlying4
 a4 := Tryz.isAgg4
 z4 := Tryz.sizeOf4
 v4 := Tryz.zeroValue4
 i4 := by kernel_rfl
 t5 := Tryz.underlying5
 a5 := Tryz.isAgg5
 z5 := Tryz.sizeOf5
 v5 := Tryz.zeroValue5
 i5 := by kernel_rfl
 t22 := Tryz.underlying204
 a22 := Tryz.isAgg204
 z22 := Tryz.sizeOf204
 v22 := Tryz.zeroValue204
 i22 := by kernel_rfl
 t25 := Tryz.underlying186
 a25 := Tryz.isAgg186
 z25 := Tryz.sizeOf186
 v25 := Tryz.zeroValue186
 i25 := by kernel_rfl
 t27 := Tryz.underlying202
 a27 := Tryz.isAgg202
 z27 := Tryz.sizeOf202
 v27 := Tryz.zeroValue202
 i27 := by kernel_rfl
 t53 := Tryz.underlying218
 a53 := Tryz.isAgg218
 z53 := Tryz.sizeOf218
 v53 := Tryz.zeroValue218
 i53 := by kernel_rfl
 t54 := Tryz.underlying219
 a54 := Tryz.isAgg219
 z54 := Tryz.sizeOf219
 g0 := by kernel_rfl
 g1 := by kernel_rfl }
end Go.Proofs
namespace Go.Proofs
open Go.RowKit Go.Tw Go.Flow
/-- The table that the library's look-up reads. -/
def Tab (w : World) : Prop := TabAt 1 Lib.deBruijn64tab w
theorem Tab.ext {w w' : World} (h : Tab w) (hx : Ext w w') : Tab w' := fun j hj => hx.cell (h j hj)
theorem low_bits {a : Nat} (h0 : a ≠ 0) (h : a < 65536) : ∃ k, Lib.ctz 64 a = k ∧ k < 16 ∧ a.testBit k = true ∧ ∀ j, j < k → a.testBit j = false := by
 have h1 : 2 ^ 16 = 65536 := rfl
 obtain ⟨m, hm, hk⟩ := Lib.ctzFrom_spec 64 a (by omega) (Nat.lt_of_lt_of_le h (by decide))
 have e : Lib.ctz 64 a = Lib.ctzFrom 64 a := by unfold Lib.ctz; rw [if_neg h0]
 rw [← e] at hm hk
 obtain ⟨k, hkk⟩ : ∃ k, Lib.ctz 64 a = k := ⟨_, rfl⟩
 rw [hkk] at hm hk
 have hb : a.testBit k = true := by rw [hm, Nat.testBit_two_pow_mul]; simp
 refine ⟨k, hkk, ?_, hb, fun j hj => ?_⟩
 · apply Nat.lt_of_not_le
   intro hge
   rw [Nat.testBit_lt_two_pow (Nat.lt_of_lt_of_le (by omega) (Nat.pow_le_pow_right (n := 2) (by omega) hge))] at hb
   cases hb
 · rw [hm, Nat.testBit_two_pow_mul]
   simp
   omega
theorem filter_split (p : Nat → Bool) {k n : Nat} (h : k < n) : (List.range n).filter p = (List.range k).filter p ++ ((if p k then [k] else []) ++ (List.range' (k + 1) (n - k - 1)).filter p) := by
 have e : List.range n = List.range k ++ (k :: List.range' (k + 1) (n - k - 1)) := by
  rw [List.range_eq_range', List.range_eq_range']
  have h1 : n = k + (1 + (n - k - 1)) := by omega
  have h2 : k :: List.range' (k + 1) (n - k - 1) = List.range' k (1 + (n - k - 1)) := by rw [Nat.add_comm 1, List.range'_succ]
  rw [h2]
  conv => lhs; rw [h1]
  rw [← List.range'_append]
  simp
 rw [e, List.filter_append, List.filter_cons]
 split <;> simp
theorem bitsOf_low {a k : Nat} (hk : k < 16) (hb : a.testBit k = true) (hl : ∀ j, j < k → a.testBit j = false) : bitsOf a = (k : Int) :: bitsOf (clearB a (2 ^ k)) := by
 unfold bitsOf
 rw [filter_split _ hk, filter_split (fun i => (clearB a (2 ^ k)).testBit i) hk]
 have e1 : (List.range k).filter (a.testBit ·) = [] := by
  rw [List.filter_eq_nil_iff]; intro j hj; rw [hl j (List.mem_range.1 hj)]; simp
 have e2 : (List.range k).filter (fun i => (clearB a (2 ^ k)).testBit i) = [] := by
  rw [List.filter_eq_nil_iff]; intro j hj; simp only [clearB_bit, hl j (List.mem_range.1 hj)]; simp
 have e3 : (clearB a (2 ^ k)).testBit k = false := by rw [clearB_bit, Nat.testBit_two_pow_self]; simp
 have e4 : (List.range' (k + 1) (16 - k - 1)).filter (a.testBit ·) = (List.range' (k + 1) (16 - k - 1)).filter (fun i => (clearB a (2 ^ k)).testBit i) := by
  apply List.filter_congr
  intro j hj
  have := List.mem_range'_1.1 hj
  rw [clearB_bit, Nat.testBit_two_pow_of_ne (by omega)]
  simp
 rw [e1, e2, e4]
 simp [hb, e3]
theorem clearB_le (a b : Nat) : clearB a b ≤ a := by
 have h : clearB a b &&& a = clearB a b := by
  apply Nat.eq_of_testBit_eq; intro i
  rw [Nat.testBit_and, clearB_bit]
  cases a.testBit i <;> simp
 rw [← h]
 exact Nat.and_le_right
theorem clearB_low {a k : Nat} (hb : a.testBit k = true) : clearB a (2 ^ k) < a := by
 refine Nat.lt_of_le_of_ne (clearB_le a _) fun e => ?_
 have := congrArg (fun x => x.testBit k) e
 simp only [clearB_bit, hb, Nat.testBit_two_pow_self] at this
 cases this
theorem bitsOf_zero : bitsOf 0 = [] := rfl
theorem bitsOf_len (s : Nat) : (bitsOf s).length ≤ 16 := by
 unfold bitsOf
 rw [List.length_map]
 exact Nat.le_trans (List.length_filter_le _ _) (by simp)
theorem tz_any (a : Nat) (w : World) (h : a < 65536) (hT : Tab w) : Calls Tryz.prog 147 #[.int .u64 a] w fun e w' => e = .returned (.int .i64 (Lib.ctz 64 a)) ∧ w' = w :=
 Any7.bits_TrailingZeros Tryz.lays27t a (by omega) w (fun _ => hT)
set_option maxRecDepth 100000 in
set_option maxHeartbeats 1000000 in
theorem members_any (w : World) (s : Nat) (hs : s < 65536) (hT : Tab w) :
    Calls Tryz.prog 122 #[.int .i64 s] w fun e w' => ∃ u, e = .returned u ∧ Own1 w' w.heap.size 3 (.int .i64) u (bitsOf s) ∧ Ext w w' := by
 obtain ⟨i0, hi, hz0, hz1, hz2⟩ := info_parts Tryz.info3
 have HT := Lib.hid hT
 have hbs := bitsOf_len s
 clear hT
 go_enter Tryz.func122, Tryz.ntmps122
 go_wp2
 go_loopw [0, 3, 4] (fun q u _ wr => ∃ (a : Nat) (l : List Int), q = .int .i64 a ∧ a < 65536 ∧ l ++ bitsOf a = bitsOf s ∧ Own1 wr w.heap.size 3 (.int .i64) u l ∧ Ext w wr) (fun q _ _ _ => (intOf q).toNat)
 case atStart => exact ⟨s, [], rfl, hs, rfl, Own1.nil _ _ _ _, Ext.refl _⟩
 case round =>
  obtain ⟨a, l, rfl, ha, hla, hown, hx⟩ := hrel
  by_cases hz : a = 0
  · subst hz
    have HL : Hid (l = bitsOf s) := by rw [bitsOf_zero, List.append_nil] at hla; exact hla
    clear hla
    go_wp2
    go_ret
    exact ⟨_, rfl, by rw [← HL.out]; exact hown, hx⟩
  · obtain ⟨k, hck, hk, hb, hl⟩ := low_bits hz ha
    have hd := bitsOf_low hk hb hl
    have hlt := clearB_low hb
    have hcl := clearB_lt (n := 16) (2 ^ k) (show a < 2 ^ 16 by omega)
    have hp := pow64 (n := k) (by omega)
    have hp2 : (2 : Nat) ^ k < 2 ^ 62 := Nat.pow_lt_pow_right (by omega) (by omega)
    have han := andNot64 (a := a) (b := 2 ^ k) (by omega) hp2
    have hlen : l.length ≤ 16 := by
     have := congrArg List.length hla
     rw [List.length_append] at this
     omega
    rw [hd] at hla
    have htz : ∀ w', Ext w w' → Calls Tryz.prog 147 #[.int .u64 a] w' fun e w'' => e = .returned (.int .i64 k) ∧ w'' = w' := by
     intro w' hx'
     have := tz_any a w' ha (HT.out.ext hx')
     rw [hck] at this
     exact this
    have HTZ := Lib.hid htz
    have hcv : IntKind.u64.wrap (a : Int) = (a : Int) := by unfold IntKind.wrap; simp only [IntKind.signed, IntKind.bits]; simp; omega
    have hne : (((a : Nat) : Int) != 0) = true := by simp; omega
    obtain ⟨Z, hZ⟩ : ∃ Z, 2 ^ k = Z := ⟨_, rfl⟩
    obtain ⟨Y, hY⟩ : ∃ Y, clearB a Z = Y := ⟨_, rfl⟩
    have hk62 : (k : Int) < 64 := by omega
    rw [hZ] at hp hla han hlt hcl
    rw [hY] at hla han hlt hcl
    have HLA := Lib.hid hla
    clear htz hck hb hl hd hla hZ hY hp2 hbs
    go_wp2_with (first | (go_at_call 147; refine (HTZ.out _ hx).mono ?_; rintro e w9 ⟨rfl, rfl⟩) | (at_builtin; refine wpList_append_own _ rfl _ _ 172 rfl (w.heap.size) 3 i0 (.int .i64 0) 1 8 Tryz.underlying172 hi hz0 hz1 hz2 rfl (by decide) _ _ _ rfl (World.ownsRow.alloc hown _) ⟨w9.heap.size, 0, none⟩ 1 1 [.int .i64 k] rfl rfl ?_ ?_ ?_ ?_ ?_ ?_; exact one_new _ _ _; (focus (simp [Value.oneCell'])); (focus (unfold maxLen; omega)); (focus omega); (focus (have := hx.size; simp at this ⊢; omega)); intro v' w1 hown' hgrow _))
    have hx' := ext_grown hx hown (Nat.le_refl _) hgrow
    go_wp2
    go_roundw
    case rel => exact ⟨Y, l ++ [(k : Int)], by go_num, by omega, by rw [List.append_assoc]; exact HLA.out, Own1.snoc hown', hx'⟩
    case measure => simp [intOf]; omega
end Go.Proofs
namespace Go.Proofs.YthfanledageoeaaGreatDoor
open Go.ChangeShapes Go.WideShapes Go.ChangeAt Go.RowKit Go.Tw
theorem own : ownKnob Tryz.prog.godebug = none := by kernel_rfl
theorem laidOut : laidOutB Tryz.prog = true := by kernel_rfl
/-- What every row of this seat lists. -/
def laidL : List (String × DataW Unit) := Rows.faultSetsRow.laid
theorem tabData64 : (Rows.laid_math_bits_deBruijn64tab : DataW Unit) = Lib.tabData .u8 (List.map (fun n : Nat => (n : Int)) Lib.deBruijn64tab) := by kernel_rfl
theorem tab_of_laid {W : World} (h : laidMetH Tryz.prog laidL W) : Tab W := by
 rw [MakeChecks.laidMetH_plain _ _ _ (by kernel_rfl)] at h
 obtain ⟨ps, ⟨g0, t0, cs0, f0, p0, q0, hg0, ht0, hv0, hd0, ⟨g1, t1, cs1, f1, p1, q1, hg1, ht1, hv1, hd1, _⟩, _⟩, _, _⟩ := h
 obtain rfl := Option.some.inj ((show Tryz.prog.globalNamed (laidL[1]?.map (·.1)).get! = some 1 by kernel_rfl).symm.trans hg1)
 obtain ⟨t, ht⟩ : ∃ t, (Tryz.prog.globals[1]?).map (·.type) = some t := ⟨_, ht1⟩
 obtain rfl := Option.some.inj (ht.symm.trans ht1)
 have ht2 : (Tryz.prog.globals[1]?).map (·.type) = some 219 := by kernel_rfl
 obtain rfl := Option.some.inj (ht2.symm.trans ht)
 rw [tabData64] at hd1
 have hu8 : Tryz.prog.cellsOf 5 = 1 := by kernel_rfl
 have hc64 : Tryz.prog.cellsOf 219 = 64 := by kernel_rfl
 have hcs := Lib.cells_of_tab Tryz.underlying219 Tryz.underlying5 hu8 hc64 hd1
 intro j hj
 have := World.var?_cell hg1 hv1 j
 rw [this, ← Array.getElem?_toList, hcs]
 simp [hj]
end Go.Proofs.YthfanledageoeaaGreatDoor
