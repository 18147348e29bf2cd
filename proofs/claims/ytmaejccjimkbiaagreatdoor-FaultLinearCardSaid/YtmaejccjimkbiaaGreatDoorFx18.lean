/- DERIVED: THE SHELF's CONTRACTS AT THIS DUMP, IN PLAIN WORDS (tools/lay-plain.mjs out of 'TryzShelf.lean', which tools/lay-shelf.mjs wrote): THE SAME DECLARATIONS UNDER THE SAME NAMES: 'import', 'namespace', 'open', 'def', 'theorem' AND NOTHING ELSE: no command of the shelf's: FOR A HAND-IN. Each laying: the table of numbers ('.._ren') and one theorem, a field a fact of the dump's own or the kernel's comparison; each contract: ONE APPLICATION. Contract: the numbers that are written in the bits of a number. What the listed tables give; small facts on the program for the rows. Contracts: a list of sets as a list of lists. -/
import Derived.Ground.Names7Prog
import Derived.Ground.SlsfProg
import Derived.Shelf.Spec.TrailingZeros
import Derived.Shelf.SlSortCmp.Whole1
import Derived.Shelf.SlGeneric
import Derived.Shelf.Strings.Builder1
import Derived.Shelf.Strings.Builder2
import Derived.Shelf.Strings.OnBuilder
import Derived.Shelf.Small.Bits
import Derived.Shelf.Small.Wraps
import Derived.Shelf.Strings.BuilderF
import Derived.Shelf.Strings.BuilderK
import Derived.Shelf.Strings.Builder2Cap
import Derived.Shelf.Strconv.Itoa0
import Derived.Shelf.Strconv.Itoa1
import Derived.Shelf.LaysM
import Derived.Shelf.Strconv.Itoa2
import Derived.Shelf.Strconv.Itoa3
import Derived.Shelf.Strings.Search1
import Derived.Shelf.Strings.Search2
import Derived.Shelf.Strings.Search3
import Derived.Shelf.Strings.Cut
import Derived.Shelf.Strings.Count
import Derived.Shelf.Strings.Shaped
import Derived.Shelf.Unicode.DecodeSlow
import Derived.Shelf.Strings.BuilderCap
import Derived.Shelf.Slices.Turned
import Derived.Ground.Names2Prog
import Derived.Shelf.Slices.Clone
import Derived.Shelf.Slices.SearchI
import Derived.Ground.SlgnProg
import Derived.Shelf.SlicesE.Clone
import Derived.Test.YtmaejccjimkbiaaGreatDoorProg
import Derived.Test.YtmaejccjimkbiaaGreatDoorFx17
import Derived.Test.YtmaejccjimkbiaaGreatDoorFx01
import Derived.Test.YtmaejccjimkbiaaGreatDoorRows
import Derived.Test.YtmaejccjimkbiaaGreatDoorTie
import Derived.Test.YtmaejccjimkbiaaGreatDoorCards
import Derived.ProofKit
import Derived.OpenShut
import Derived.LaidMore
import Derived.Lay
import Derived.Lib.LaidTab
import Derived.SevenTiedAt
import Derived.Stop.Joined
set_option linter.unusedVariables false
set_option linter.unusedSimpArgs false
set_option linter.constructorNameAsVariable false
namespace Go.Proofs
open Go.Shelf
open Go.RowKit in
open Go.RowKit in
open Go.RowKit in
open Go.RowKit in
open Go.RowKit in
def Tryz.lays156_ren:Go.Shelf.Ren:=⟨fun | 156=>113 | 165=>148 | 166=>149 | 169=>150 | 240=>165 | 241=>166 | 276=>186 | 277=>187 | n=>n,fun | 31=>105 | 9=>9 | 3=>3 | 4=>4 | 0=>0 | 20=>20 | 72=>208 | 76=>212 | 70=>206 | 37=>164 | 75=>211 | 127=>226 | 164=>241 | 5=>5 | 80=>214 | n=>n,fun | n=>n⟩
theorem Tryz.lays156:Go.Proofs.Lays.n156 Tryz.prog Tryz.lays156_ren:={
 mixed:=by kernel_rfl
 f156:=Tryz.func113.trans (congrArg some (by kernel_rfl))
 f165:=Tryz.func148.trans (congrArg some (by kernel_rfl))
 f166:=Tryz.func149.trans (congrArg some (by kernel_rfl))
 f169:=Tryz.func150.trans (congrArg some (by kernel_rfl))
 f240:=Tryz.func165.trans (congrArg some (by kernel_rfl))
 f241:=Tryz.func166.trans (congrArg some (by kernel_rfl))
 f276:=Tryz.func186.trans (congrArg some (by kernel_rfl))
 f277:=Tryz.func187.trans (congrArg some (by kernel_rfl))
 t0:=Tryz.underlying0
 a0:=Tryz.isAgg0
 z0:=Tryz.sizeOf0
 v0:=Tryz.zeroValue0
 t3:=Tryz.underlying3
 a3:=Tryz.isAgg3
 z3:=Tryz.sizeOf3
 v3:=Tryz.zeroValue3
 t4:=Tryz.underlying4
 a4:=Tryz.isAgg4
 z4:=Tryz.sizeOf4
 v4:=Tryz.zeroValue4
 t9:=Tryz.underlying9
 a9:=Tryz.isAgg9
 z9:=Tryz.sizeOf9
 v9:=Tryz.zeroValue9
 t20:=Tryz.underlying20
 a20:=Tryz.isAgg20
 z20:=Tryz.sizeOf20
 v20:=Tryz.zeroValue20
 t31:=Tryz.underlying105
 a31:=Tryz.isAgg105
 z31:=Tryz.sizeOf105
 v31:=Tryz.zeroValue105
 t37:=Tryz.underlying164
 a37:=Tryz.isAgg164
 z37:=Tryz.sizeOf164
 v37:=Tryz.zeroValue164
 t70:=Tryz.underlying206
 a70:=Tryz.isAgg206
 z70:=Tryz.sizeOf206
 v70:=Tryz.zeroValue206
 t72:=Tryz.underlying208
 a72:=Tryz.isAgg208
 z72:=Tryz.sizeOf208
 v72:=Tryz.zeroValue208
 t75:=Tryz.underlying211
 a75:=Tryz.isAgg211
 z75:=Tryz.sizeOf211
 v75:=Tryz.zeroValue211
 t76:=Tryz.underlying212
 a76:=Tryz.isAgg212
 z76:=Tryz.sizeOf212
 v76:=Tryz.zeroValue212
 t127:=Tryz.underlying226
 a127:=Tryz.isAgg226
 z127:=Tryz.sizeOf226
 v127:=Tryz.zeroValue226
 t164:=Tryz.underlying241
 a164:=Tryz.isAgg241
 z164:=Tryz.sizeOf241
 v164:=Tryz.zeroValue241 }
theorem Tryz.Builder_Extra_156:Builder.Extra Tryz.prog Tryz.lays156_ren:={
 sizeBuilder:=by kernel_rfl
 liesBuilder:=by kernel_rfl
 t5:=Tryz.underlying5
 a5:=Tryz.isAgg5
 z5:=Tryz.sizeOf5
 v5:=Tryz.zeroValue5
 infoByte:=by kernel_rfl
 cellsByte:=by kernel_rfl
 sizeByte:=by kernel_rfl
 neB5:=by decide }
open Go.RowKit in
open Go.RowKit in
theorem Tryz.strings_Join (bk o c:Nat) (xs:List ByteArray) (sep:ByteArray) (w:World) (hcells:∀ (j:Nat) x,xs[j]? = some x → w.cell? ⟨bk,o + j,none⟩ = some (.string x)) (hbk:bk < w.heap.size) (hN:xs.length ≤ 140737488355328) (hcap:xs.length ≤ c) (hlen:(Lib.join (xs.map (·.data.toList)) sep.data.toList).length ≤ 140737488355328) :
    Calls Tryz.prog 113 #[.slice (some ⟨bk,o,none⟩) xs.length c,.string sep] w fun e w'=>e = .returned (.string ⟨(Lib.join (xs.map (·.data.toList)) sep.data.toList).toArray⟩) ∧ Below w.heap.size w w':=Any.strings_Join Tryz.lays156 Tryz.Builder_Extra_156 bk o c xs sep w hcells hbk hN hcap hlen
def Tryz.Y2k:Go.Shelf.Ren:=⟨fun | 125=>163 | 128=>183 | 129=>184 | n=>n,fun | 46=>223 | 3=>3 | 51=>230 | 53=>232 | 4=>4 | 5=>5 | 9=>9 | n=>n,fun | n=>n⟩
theorem Tryz.lays125:Go.Proofs.Lays.n125 Tryz.prog Tryz.Y2k:={
 mixed:=by kernel_rfl
 f125:=Tryz.func163.trans (congrArg some (by kernel_rfl))
 f128:=Tryz.func183.trans (congrArg some (by kernel_rfl))
 f129:=Tryz.func184.trans (congrArg some (by kernel_rfl))
 t3:=Tryz.underlying3
 a3:=Tryz.isAgg3
 z3:=Tryz.sizeOf3
 v3:=Tryz.zeroValue3
 t4:=Tryz.underlying4
 a4:=Tryz.isAgg4
 z4:=Tryz.sizeOf4
 v4:=Tryz.zeroValue4
 t5:=Tryz.underlying5
 a5:=Tryz.isAgg5
 z5:=Tryz.sizeOf5
 v5:=Tryz.zeroValue5
 t9:=Tryz.underlying9
 a9:=Tryz.isAgg9
 z9:=Tryz.sizeOf9
 v9:=Tryz.zeroValue9
 t46:=Tryz.underlying223
 a46:=Tryz.isAgg223
 z46:=Tryz.sizeOf223
 v46:=Tryz.zeroValue223
 t51:=Tryz.underlying230
 a51:=Tryz.isAgg230
 z51:=Tryz.sizeOf230
 v51:=Tryz.zeroValue230
 t53:=Tryz.underlying232
 a53:=Tryz.isAgg232
 z53:=Tryz.sizeOf232
 v53:=Tryz.zeroValue232 }
theorem Tryz.bits_Len (x:Int) (w:World) (h0:0 ≤ x) (h1:x ≤ 18446744073709551615) :
    Calls Tryz.prog 163 #[.int .u64 x] w fun e w'=>e = .returned (.int .i64 (Lib.bitLen x.toNat)) ∧ w' = w:=Any.bits_Len Tryz.lays125 x w h0 h1
open Go.RowKit in
open Go.RowKit in
open Go.RowKit in
open Go.RowKit in
open Go.RowKit in
open Go.RowKit in
open Go.RowKit in
open Go.RowKit in
open Go.RowKit in
open Go.RowKit in
open Go.Lib in
open Go.Lib in
open Go.Lib in
open Go.Lib in
open Go.RowKit Go.Sort Go.Lib in
open Go.RowKit Go.Sort Go.Lib in
open Go.RowKit Go.Sort Go.Lib in
open Go.RowKit Go.Sort Go.Lib in
open Go.RowKit Go.Sort Go.Lib in
open Go.RowKit Go.Sort Go.Lib in
def Tryz.Y1x:Go.Shelf.Ren:=⟨fun | 171=>152 | 243=>167 | 246=>188 | 283=>202 | 284=>203 | 285=>204 | 286=>205 | 129=>184 | 317=>212 | 318=>213 | 319=>214 | 320=>161 | 337=>173 | 338=>174 | n=>n,fun | 3=>3 | 9=>9 | 2=>2 | 4=>4 | 171=>255 | 0=>0 | 53=>232 | 37=>164 | 5=>5 | 173=>257 | 212=>267 | 51=>230 | 20=>20 | 213=>268 | 46=>223 | 232=>247 | 233=>248 | n=>n,fun | 17=>3 | 18=>1 | 19=>2 | n=>n⟩
theorem Tryz.lays171:Go.Proofs.Lays.n171 Tryz.prog Tryz.Y1x:={
 mixed:=by kernel_rfl
 f129:=Tryz.func184.trans (congrArg some (by kernel_rfl))
 f171:=Tryz.func152.trans (congrArg some (by kernel_rfl))
 f243:=Tryz.func167.trans (congrArg some (by kernel_rfl))
 f246:=Tryz.func188.trans (congrArg some (by kernel_rfl))
 f283:=Tryz.func202.trans (congrArg some (by kernel_rfl))
 f284:=Tryz.func203.trans (congrArg some (by kernel_rfl))
 f285:=Tryz.func204.trans (congrArg some (by kernel_rfl))
 f286:=Tryz.func205.trans (congrArg some (by kernel_rfl))
 f317:=Tryz.func212.trans (congrArg some (by kernel_rfl))
 f318:=Tryz.func213.trans (congrArg some (by kernel_rfl))
 f319:=Tryz.func214.trans (congrArg some (by kernel_rfl))
 f320:=Tryz.func161.trans (congrArg some (by kernel_rfl))
 f337:=Tryz.func173.trans (congrArg some (by kernel_rfl))
 f338:=Tryz.func174.trans (congrArg some (by kernel_rfl))
 t0:=Tryz.underlying0
 a0:=Tryz.isAgg0
 z0:=Tryz.sizeOf0
 v0:=Tryz.zeroValue0
 t2:=Tryz.underlying2
 a2:=Tryz.isAgg2
 z2:=Tryz.sizeOf2
 v2:=Tryz.zeroValue2
 t3:=Tryz.underlying3
 a3:=Tryz.isAgg3
 z3:=Tryz.sizeOf3
 v3:=Tryz.zeroValue3
 t4:=Tryz.underlying4
 a4:=Tryz.isAgg4
 z4:=Tryz.sizeOf4
 v4:=Tryz.zeroValue4
 t5:=Tryz.underlying5
 a5:=Tryz.isAgg5
 z5:=Tryz.sizeOf5
 v5:=Tryz.zeroValue5
 t9:=Tryz.underlying9
 a9:=Tryz.isAgg9
 z9:=Tryz.sizeOf9
 v9:=Tryz.zeroValue9
 t20:=Tryz.underlying20
 a20:=Tryz.isAgg20
 z20:=Tryz.sizeOf20
 v20:=Tryz.zeroValue20
 t37:=Tryz.underlying164
 a37:=Tryz.isAgg164
 z37:=Tryz.sizeOf164
 v37:=Tryz.zeroValue164
 t46:=Tryz.underlying223
 a46:=Tryz.isAgg223
 z46:=Tryz.sizeOf223
 v46:=Tryz.zeroValue223
 t51:=Tryz.underlying230
 a51:=Tryz.isAgg230
 z51:=Tryz.sizeOf230
 v51:=Tryz.zeroValue230
 t53:=Tryz.underlying232
 a53:=Tryz.isAgg232
 z53:=Tryz.sizeOf232
 v53:=Tryz.zeroValue232
 t171:=Tryz.underlying255
 a171:=Tryz.isAgg255
 z171:=Tryz.sizeOf255
 v171:=Tryz.zeroValue255
 t173:=Tryz.underlying257
 a173:=Tryz.isAgg257
 z173:=Tryz.sizeOf257
 v173:=Tryz.zeroValue257
 t212:=Tryz.underlying267
 a212:=Tryz.isAgg267
 z212:=Tryz.sizeOf267
 v212:=Tryz.zeroValue267
 t213:=Tryz.underlying268
 a213:=Tryz.isAgg268
 z213:=Tryz.sizeOf268
 t232:=Tryz.underlying247
 a232:=Tryz.isAgg247
 z232:=Tryz.sizeOf247
 v232:=Tryz.zeroValue247
 t233:=Tryz.underlying248
 a233:=Tryz.isAgg248
 z233:=Tryz.sizeOf248
 v233:=Tryz.zeroValue248
 g17:=by kernel_rfl
 g18:=by kernel_rfl
 g19:=by kernel_rfl }
open Go.RowKit Go.Sort Go.Lib in
theorem Tryz.strconv_Itoa_small (i:Nat) (hi:i < 100) (w:World) :
    Calls Tryz.prog 152 #[.int .i64 i] w fun e w'=>e = .returned (.string ⟨(Lib.decDigits i).toArray⟩) ∧ w' = w:=Any.strconv_Itoa_small Tryz.lays171 i hi w
open Go.RowKit Go.Lib in
open Go.RowKit Go.Lib in
open Go.RowKit Go.Lib in
open Go.RowKit Go.Lib in
open Go.RowKit Go.Lib in
open Go.RowKit Go.Lib in
open Go.RowKit Go.Lib in
open Go.RowKit Go.Lib in
open Go.RowKit Go.Lib in
open Go.RowKit Go.Lib in
open Go.RowKit Go.Lib in
open Go.RowKit Go.Lib in
open Go.RowKit Go.Lib in
open Go.RowKit Go.Lib in
open Go.RowKit Go.Lib in
open Go.RowKit Go.Lib in
open Go.RowKit Go.Lib in
open Go.RowKit Go.Lib in
open Go.Lib in
open Go.Lib in
open Go.Lib in
open Go.Lib in
open Go.Lib in
open Go.Lib in
open Go.Lib in
open Go.Lib in
def Tryz.X7w:Go.Shelf.Ren:=⟨fun | 15=>137 | n=>n,fun | 22=>39 | 3=>3 | 4=>4 | n=>n,fun | n=>n⟩
theorem Tryz.laysNm215:Go.Proofs.Lays2.n15 Tryz.prog Tryz.X7w:={
 mixed:=by kernel_rfl
 f15:=Tryz.func137.trans (congrArg some (by kernel_rfl))
 t3:=Tryz.underlying3
 a3:=Tryz.isAgg3
 z3:=Tryz.sizeOf3
 v3:=Tryz.zeroValue3
 t4:=Tryz.underlying4
 a4:=Tryz.isAgg4
 z4:=Tryz.sizeOf4
 v4:=Tryz.zeroValue4
 t22:=Tryz.underlying39
 a22:=Tryz.isAgg39
 z22:=Tryz.sizeOf39
 v22:=Tryz.zeroValue39
 i3:=by kernel_rfl }
open Go.RowKit Go.Lib in
theorem Tryz.slices_Clone_int (b off n c:Nat) (zs:List Int) (w:World) (hz:n ≤ zs.length) (hbig:n * 8 ≤ 140737488355328) (hc:∀ j,j < zs.length → w.cell? ⟨b,off + j,none⟩ = some (.int .i64 (zs.getD j 0))) :
    Calls Tryz.prog 137 #[.slice (some ⟨b,off,none⟩) n c] w fun e w'=>∃ v',e = .returned v' ∧ w'.ownsRow w.heap.size 3 1 v' n ((zs.take n).map (Value.int .i64)) ∧ v' ≠ .slice none 0 0 ∧ Below w.heap.size w w':=Any.slices_Clone_int Tryz.laysNm215 b off n c zs w hz hbig hc
open Go.RowKit Go.Lib in
theorem Tryz.slices_Clone_int_nil (n c:Nat) (w:World) :
    Calls Tryz.prog 137 #[.slice none n c] w fun e w'=>e = .returned (.slice none 0 0) ∧ w' = w:=Any.slices_Clone_int_nil Tryz.laysNm215 n c w
open Go.RowKit Go.Lib in
theorem Tryz.slices_Clone_int_zero (a:Addr) (c:Nat) (w:World) :
    Calls Tryz.prog 137 #[.slice (some a) 0 c] w fun e w'=>∃ v',e = .returned v' ∧ w'.ownsRow w.heap.size 3 1 v' 0 [] ∧ v' ≠ .slice none 0 0 ∧ Below w.heap.size w w':=Any.slices_Clone_int_zero Tryz.laysNm215 a c w
open Go.RowKit Go.Lib in
open Go.RowKit Go.Lib in
open Go.RowKit Go.Lib in
def Tryz.Y2e:Go.Shelf.Ren:=⟨fun | 6=>129 | 15=>163 | 14=>162 | 28=>183 | 29=>184 | 20=>175 | 21=>176 | 22=>177 | 23=>178 | 24=>179 | 25=>180 | 26=>181 | 27=>182 | 46=>196 | 47=>197 | 48=>198 | 49=>199 | 50=>200 | 57=>211 | n=>n,fun | 22=>186 | 24=>187 | 25=>190 | 3=>3 | 39=>223 | 0=>0 | 53=>230 | 55=>232 | 4=>4 | 46=>235 | 45=>234 | 50=>170 | 5=>5 | 9=>9 | 66=>249 | 70=>253 | 76=>263 | 77=>264 | n=>n,fun | n=>n⟩
theorem Tryz.sortSet:Go.Proofs.SlLaysF.n6 Tryz.prog Tryz.Y2e:={
 mixed:=by kernel_rfl
 f6:=⟨Tryz.f129.name,by decide,Tryz.func129.trans (congrArg some (by kernel_rfl))⟩
 f14:=⟨Tryz.f162.name,by decide,Tryz.func162.trans (congrArg some (by kernel_rfl))⟩
 f15:=Tryz.func163.trans (congrArg some (by kernel_rfl))
 f20:=⟨Tryz.f175.name,by decide,Tryz.func175.trans (congrArg some (by kernel_rfl))⟩
 f21:=⟨Tryz.f176.name,by decide,Tryz.func176.trans (congrArg some (by kernel_rfl))⟩
 f22:=⟨Tryz.f177.name,by decide,Tryz.func177.trans (congrArg some (by kernel_rfl))⟩
 f23:=⟨Tryz.f178.name,by decide,Tryz.func178.trans (congrArg some (by kernel_rfl))⟩
 f24:=⟨Tryz.f179.name,by decide,Tryz.func179.trans (congrArg some (by kernel_rfl))⟩
 f25:=⟨Tryz.f180.name,by decide,Tryz.func180.trans (congrArg some (by kernel_rfl))⟩
 f26:=⟨Tryz.f181.name,by decide,Tryz.func181.trans (congrArg some (by kernel_rfl))⟩
 f27:=⟨Tryz.f182.name,by decide,Tryz.func182.trans (congrArg some (by kernel_rfl))⟩
 f28:=Tryz.func183.trans (congrArg some (by kernel_rfl))
 f29:=Tryz.func184.trans (congrArg some (by kernel_rfl))
 f46:=⟨Tryz.f196.name,by decide,Tryz.func196.trans (congrArg some (by kernel_rfl))⟩
 f47:=Tryz.func197.trans (congrArg some (by kernel_rfl))
 f48:=Tryz.func198.trans (congrArg some (by kernel_rfl))
 f49:=⟨Tryz.f199.name,by decide,Tryz.func199.trans (congrArg some (by kernel_rfl))⟩
 f50:=⟨Tryz.f200.name,by decide,Tryz.func200.trans (congrArg some (by kernel_rfl))⟩
 f57:=⟨Tryz.f211.name,by decide,Tryz.func211.trans (congrArg some (by kernel_rfl))⟩
 t0:=Tryz.underlying0
 a0:=Tryz.isAgg0
 z0:=Tryz.sizeOf0
 v0:=Tryz.zeroValue0
 t3:=Tryz.underlying3
 a3:=Tryz.isAgg3
 z3:=Tryz.sizeOf3
 v3:=Tryz.zeroValue3
 t4:=Tryz.underlying4
 a4:=Tryz.isAgg4
 z4:=Tryz.sizeOf4
 v4:=Tryz.zeroValue4
 t5:=Tryz.underlying5
 a5:=Tryz.isAgg5
 z5:=Tryz.sizeOf5
 v5:=Tryz.zeroValue5
 t9:=Tryz.underlying9
 a9:=Tryz.isAgg9
 z9:=Tryz.sizeOf9
 v9:=Tryz.zeroValue9
 t22:=Tryz.underlying186
 a22:=Tryz.isAgg186
 z22:=Tryz.sizeOf186
 v22:=Tryz.zeroValue186
 a24:=Tryz.isAgg187
 z24:=Tryz.sizeOf187
 t25:=Tryz.underlying190
 a25:=Tryz.isAgg190
 z25:=Tryz.sizeOf190
 v25:=Tryz.zeroValue190
 t39:=Tryz.underlying223
 a39:=Tryz.isAgg223
 z39:=Tryz.sizeOf223
 v39:=Tryz.zeroValue223
 t45:=Tryz.underlying234
 a45:=Tryz.isAgg234
 z45:=Tryz.sizeOf234
 v45:=Tryz.zeroValue234
 t46:=Tryz.underlying235
 a46:=Tryz.isAgg235
 z46:=Tryz.sizeOf235
 v46:=Tryz.zeroValue235
 t50:=Tryz.underlying170
 a50:=Tryz.isAgg170
 z50:=Tryz.sizeOf170
 v50:=Tryz.zeroValue170
 t53:=Tryz.underlying230
 a53:=Tryz.isAgg230
 z53:=Tryz.sizeOf230
 v53:=Tryz.zeroValue230
 t55:=Tryz.underlying232
 a55:=Tryz.isAgg232
 z55:=Tryz.sizeOf232
 v55:=Tryz.zeroValue232
 t66:=Tryz.underlying249
 a66:=Tryz.isAgg249
 z66:=Tryz.sizeOf249
 v66:=Tryz.zeroValue249
 t70:=Tryz.underlying253
 a70:=Tryz.isAgg253
 z70:=Tryz.sizeOf253
 v70:=Tryz.zeroValue253
 t76:=Tryz.underlying263
 a76:=Tryz.isAgg263
 z76:=Tryz.sizeOf263
 v76:=Tryz.zeroValue263
 t77:=Tryz.underlying264
 a77:=Tryz.isAgg264
 z77:=Tryz.sizeOf264
 v77:=Tryz.zeroValue264 }
def Tryz.Y2s:Go.Shelf.Ren:=⟨fun | 27=>161 | 28=>173 | 29=>174 | n=>n,fun | 25=>223 | 3=>3 | 27=>230 | 22=>232 | 4=>4 | 53=>247 | 0=>0 | 5=>5 | 54=>248 | n=>n,fun | 0=>1 | 1=>2 | n=>n⟩
theorem Tryz.lays27t:Go.Proofs.Lays7.n27 Tryz.prog Tryz.Y2s:={
 mixed:=by kernel_rfl
 f27:=Tryz.func161.trans (congrArg some (by kernel_rfl))
 f28:=Tryz.func173.trans (congrArg some (by kernel_rfl))
 f29:=Tryz.func174.trans (congrArg some (by kernel_rfl))
 t0:=Tryz.underlying0
 a0:=Tryz.isAgg0
 z0:=Tryz.sizeOf0
 v0:=Tryz.zeroValue0
 i0:=by kernel_rfl
 t3:=Tryz.underlying3
 a3:=Tryz.isAgg3
 z3:=Tryz.sizeOf3
 v3:=Tryz.zeroValue3
 i3:=by kernel_rfl
 t4:=Tryz.underlying4
 a4:=Tryz.isAgg4
 z4:=Tryz.sizeOf4
 v4:=Tryz.zeroValue4
 i4:=by kernel_rfl
 t5:=Tryz.underlying5
 a5:=Tryz.isAgg5
 z5:=Tryz.sizeOf5
 v5:=Tryz.zeroValue5
 i5:=by kernel_rfl
 t22:=Tryz.underlying232
 a22:=Tryz.isAgg232
 z22:=Tryz.sizeOf232
 v22:=Tryz.zeroValue232
 i22:=by kernel_rfl
 t25:=Tryz.underlying223
 a25:=Tryz.isAgg223
 z25:=Tryz.sizeOf223
 v25:=Tryz.zeroValue223
 i25:=by kernel_rfl
 t27:=Tryz.underlying230
 a27:=Tryz.isAgg230
 z27:=Tryz.sizeOf230
 v27:=Tryz.zeroValue230
 i27:=by kernel_rfl
 t53:=Tryz.underlying247
 a53:=Tryz.isAgg247
 z53:=Tryz.sizeOf247
 v53:=Tryz.zeroValue247
 i53:=by kernel_rfl
 t54:=Tryz.underlying248
 a54:=Tryz.isAgg248
 z54:=Tryz.sizeOf248
 g0:=by kernel_rfl
 g1:=by kernel_rfl }
end Go.Proofs
namespace Go.Proofs
open Go.RowKit Go.Tw Go.Flow
def Tab (w:World):Prop:=TabAt 2 Lib.deBruijn64tab w
theorem Tab.ext {w w':World} (h:Tab w) (hx:Ext w w'):Tab w':=fun j hj=>hx.cell (h j hj)
theorem Z1e {a:Nat} (h0:a ≠ 0) (h:a < 65536):∃ k,Lib.ctz 64 a = k ∧ k < 16 ∧ a.testBit k = true ∧ ∀ j,j < k → a.testBit j = false:=by
 have h1:2 ^ 16 = 65536:=rfl;obtain ⟨m,hm,hk⟩:=Lib.ctzFrom_spec 64 a (by omega) (Nat.lt_of_lt_of_le h (by decide))
 have e:Lib.ctz 64 a = Lib.ctzFrom 64 a:=by unfold Lib.ctz; rw [if_neg h0]
 rw [← e] at hm hk;obtain ⟨k,hkk⟩:∃ k,Lib.ctz 64 a = k:=⟨_,rfl⟩;rw [hkk] at hm hk;have hb:a.testBit k = true:=by rw [hm,Nat.testBit_two_pow_mul]; simp
 refine ⟨k,hkk,?_,hb,fun j hj=>?_⟩
 · apply Nat.lt_of_not_le
   intro hge;rw [Nat.testBit_lt_two_pow (Nat.lt_of_lt_of_le (by omega) (Nat.pow_le_pow_right (n:=2) (by omega) hge))] at hb
   cases hb
 · rw [hm,Nat.testBit_two_pow_mul]
   simp;omega
theorem X2y (p:Nat → Bool) {k n:Nat} (h:k < n):(List.range n).filter p = (List.range k).filter p ++ ((if p k then [k] else []) ++ (List.range' (k + 1) (n - k - 1)).filter p):=by
 have e:List.range n = List.range k ++ (k :: List.range' (k + 1) (n - k - 1)):=by
  rw [List.range_eq_range',List.range_eq_range'];have h1:n = k + (1 + (n - k - 1)):=by omega
  have h2:k :: List.range' (k + 1) (n - k - 1) = List.range' k (1 + (n - k - 1)):=by rw [Nat.add_comm 1,List.range'_succ]
  rw [h2]
  conv=>lhs; rw [h1]
  rw [← List.range'_append];simp
 rw [e,List.filter_append,List.filter_cons]
 split <;> simp
theorem Y5u {a k:Nat} (hk:k < 16) (hb:a.testBit k = true) (hl:∀ j,j < k → a.testBit j = false):bitsOf a = (k:Int) :: bitsOf (Q2u a (2 ^ k)):=by
 unfold bitsOf;rw [X2y _ hk,X2y (fun i=>(Q2u a (2 ^ k)).testBit i) hk];have e1:(List.range k).filter (a.testBit ·) = []:=by
  rw [List.filter_eq_nil_iff]; intro j hj; rw [hl j (List.mem_range.1 hj)]; simp
 have e2:(List.range k).filter (fun i=>(Q2u a (2 ^ k)).testBit i) = []:=by
  rw [List.filter_eq_nil_iff]; intro j hj; simp only [Q4g,hl j (List.mem_range.1 hj)]; simp
 have e3:(Q2u a (2 ^ k)).testBit k = false:=by rw [Q4g,Nat.testBit_two_pow_self]; simp
 have e4:(List.range' (k + 1) (16 - k - 1)).filter (a.testBit ·) = (List.range' (k + 1) (16 - k - 1)).filter (fun i=>(Q2u a (2 ^ k)).testBit i):=by
  apply List.filter_congr
  intro j hj;have:=List.mem_range'_1.1 hj;rw [Q4g,Nat.testBit_two_pow_of_ne (by omega)]
  simp
 rw [e1,e2,e4];simp [hb,e3]
theorem Y7m (a b:Nat):Q2u a b ≤ a:=by
 have h:Q2u a b &&& a = Q2u a b:=by
  apply Nat.eq_of_testBit_eq; intro i
  rw [Nat.testBit_and,Q4g];cases a.testBit i <;> simp
 rw [← h];exact Nat.and_le_right
theorem Y5d {a k:Nat} (hb:a.testBit k = true):Q2u a (2 ^ k) < a:=by
 refine Nat.lt_of_le_of_ne (Y7m a _) fun e=>?_;have:=congrArg (fun x=>x.testBit k) e;simp only [Q4g,hb,Nat.testBit_two_pow_self] at this;cases this
theorem Y3g:bitsOf 0 = []:=rfl
theorem X6r (s:Nat):(bitsOf s).length ≤ 16:=by
 unfold bitsOf;rw [List.length_map];exact Nat.le_trans (List.length_filter_le _ _) (by simp)
theorem Z4x (a:Nat) (w:World) (h:a < 65536) (hT:Tab w):Calls Tryz.prog 161 #[.int .u64 a] w fun e w'=>e = .returned (.int .i64 (Lib.ctz 64 a)) ∧ w' = w :=
 Any7.bits_TrailingZeros Tryz.lays27t a (by omega) w (fun _=>hT)
set_option maxRecDepth 100000 in
set_option maxHeartbeats 1000000 in
theorem Y1j (w:World) (s:Nat) (hs:s < 65536) (hT:Tab w) :
    Calls Tryz.prog 128 #[.int .i64 s] w fun e w'=>∃ u,e = .returned u ∧ Q0q w' w.heap.size 3 (.int .i64) u (bitsOf s) ∧ Ext w w':=by
 obtain ⟨i0,hi,hz0,hz1,hz2⟩:=info_parts Tryz.info3;have HT:=Lib.hid hT;have hbs:=X6r s;clear hT;go_enter Tryz.func128,Tryz.ntmps128;go_wp2
 go_loopw [0,3,4] (fun q u _ wr=>∃ (a:Nat) (l:List Int),q = .int .i64 a ∧ a < 65536 ∧ l ++ bitsOf a = bitsOf s ∧ Q0q wr w.heap.size 3 (.int .i64) u l ∧ Ext w wr) (fun q _ _ _=>(intOf q).toNat)
 case atStart=>exact ⟨s,[],rfl,hs,rfl,Q0q.nil _ _ _ _,Ext.refl _⟩
 case round =>
  obtain ⟨a,l,rfl,ha,hla,hown,hx⟩:=hrel
  by_cases hz:a = 0
  · subst hz
    have HL:Hid (l = bitsOf s):=by rw [Y3g,List.append_nil] at hla; exact hla
    clear hla;go_wp2;go_ret;exact ⟨_,rfl,by rw [← HL.out]; exact hown,hx⟩
  · obtain ⟨k,hck,hk,hb,hl⟩:=Z1e hz ha
    have hd:=Y5u hk hb hl;have hlt:=Y5d hb;have hcl:=Q6q (n:=16) (2 ^ k) (show a < 2 ^ 16 by omega)
    have hp:=Y2j (n:=k) (by omega)
    have hp2:(2:Nat) ^ k < 2 ^ 62:=Nat.pow_lt_pow_right (by omega) (by omega)
    have han:=Q9v (a:=a) (b:=2 ^ k) (by omega) hp2
    have hlen:l.length ≤ 16:=by
     have:=congrArg List.length hla;rw [List.length_append] at this;omega
    rw [hd] at hla;have htz:∀ w',Ext w w' → Calls Tryz.prog 161 #[.int .u64 a] w' fun e w''=>e = .returned (.int .i64 k) ∧ w'' = w':=by
     intro w' hx';have:=Z4x a w' ha (HT.out.ext hx');rw [hck] at this;exact this
    have HTZ:=Lib.hid htz;have hcv:IntKind.u64.wrap (a:Int) = (a:Int):=by unfold IntKind.wrap; simp only [IntKind.signed,IntKind.bits]; simp; omega
    have hne:(((a:Nat):Int) != 0) = true:=by simp; omega
    obtain ⟨Z,hZ⟩:∃ Z,2 ^ k = Z:=⟨_,rfl⟩;obtain ⟨Y,hY⟩:∃ Y,Q2u a Z = Y:=⟨_,rfl⟩;have hk62:(k:Int) < 64:=by omega
    rw [hZ] at hp hla han hlt hcl;rw [hY] at hla han hlt hcl;have HLA:=Lib.hid hla;clear htz hck hb hl hd hla hZ hY hp2 hbs;go_wp2_with (first | (go_at_call 161; refine (HTZ.out _ hx).mono ?_; rintro e w9 ⟨rfl,rfl⟩) | (at_builtin; refine wpList_append_own _ rfl _ _ 187 rfl (w.heap.size) 3 i0 (.int .i64 0) 1 8 Tryz.underlying187 hi hz0 hz1 hz2 rfl (by decide) _ _ _ rfl (World.ownsRow.alloc hown _) ⟨w9.heap.size,0,none⟩ 1 1 [.int .i64 k] rfl rfl ?_ ?_ ?_ ?_ ?_ ?_; exact Q9g _ _ _; (focus (simp [Value.oneCell'])); (focus (unfold maxLen; omega)); (focus omega); (focus (have:=hx.size; simp at this ⊢; omega)); intro v' w1 hown' hgrow _))
    have hx':=Q5h hx hown (Nat.le_refl _) hgrow;go_wp2;go_roundw
    case rel=>exact ⟨Y,l ++ [(k:Int)],by go_num,by omega,by rw [List.append_assoc]; exact HLA.out,Q0q.snoc hown',hx'⟩
    case measure=>simp [intOf]; omega
end Go.Proofs
namespace Go.Proofs.YtmaejccjimkbiaaGreatDoor
open Go.ChangeShapes Go.WideShapes Go.ChangeAt Go.RowKit Go.Tw
theorem own:ownKnob Tryz.prog.godebug = none:=by kernel_rfl
theorem laidOut:laidOutB Tryz.prog = true:=by kernel_rfl
def Y5l:List (String × DataW Unit):=Rows.faultMonotoneRow.laid
theorem Y8g:(Rows.laid_math_bits_deBruijn64tab:DataW Unit) = Lib.tabData .u8 (List.map (fun n:Nat=>(n:Int)) Lib.deBruijn64tab):=by kernel_rfl
theorem Y2g {W:World} (h:laidMetH Tryz.prog Y5l W):Tab W:=by
 rw [MakeChecks.laidMetH_plain _ _ _ (by kernel_rfl)] at h
 obtain ⟨ps,⟨g0,t0,cs0,f0,p0,q0,hg0,ht0,hv0,hd0,⟨g1,t1,cs1,f1,p1,q1,hg1,ht1,hv1,hd1,_⟩,_⟩,_,_⟩:=h;obtain rfl:=Option.some.inj ((show Tryz.prog.globalNamed (Y5l[1]?.map (·.1)).get! = some 2 by kernel_rfl).symm.trans hg1)
 obtain ⟨t,ht⟩:∃ t,(Tryz.prog.globals[2]?).map (·.type) = some t:=⟨_,ht1⟩;obtain rfl:=Option.some.inj (ht.symm.trans ht1);have ht2:(Tryz.prog.globals[2]?).map (·.type) = some 248:=by kernel_rfl
 obtain rfl:=Option.some.inj (ht2.symm.trans ht);rw [Y8g] at hd1;have hu8:Tryz.prog.cellsOf 5 = 1:=by kernel_rfl
 have hc64:Tryz.prog.cellsOf 248 = 64:=by kernel_rfl
 have hcs:=Lib.cells_of_tab Tryz.underlying248 Tryz.underlying5 hu8 hc64 hd1;intro j hj;have:=World.var?_cell hg1 hv1 j;rw [this,← Array.getElem?_toList,hcs];simp [hj]
end Go.Proofs.YtmaejccjimkbiaaGreatDoor
namespace Go.Proofs
open Go.RowKit Go.Tw Go.Flow
theorem Z0o (w:World) (x:Value):Calls Tryz.prog 132 #[x] w fun e w'=>e = .returned x ∧ w = w':=by
 go_enter Tryz.func132,Tryz.ntmps132;go_wp2;go_ret;exact ⟨rfl,rfl⟩
theorem X5u {w:World} {vs:List Value} {ll:List (List Int)} {v:Value} {k:Nat} (h:Reads w vs (ll.take k)) (hk:k < ll.length) (hv:Q0f w v (ll.getD k [])):Reads w (vs ++ [v]) (ll.take (k + 1)):=by
 have e:ll.take (k + 1) = ll.take k ++ [ll.getD k []]:=by rw [List.take_succ_eq_append_getElem hk]; simp [hk]
 rw [e];exact h.snoc hv
set_option maxRecDepth 100000 in
set_option maxHeartbeats 1000000 in
theorem X5r (w:World) (v:Value) (ll:List (List Int)) (hv:Q1w w v ll) (hle:ll.length ≤ 4096) :
    Calls Tryz.prog 131 #[v,.func (.func 132) #[] #[]] w fun e w'=>∃ x,e = .returned x ∧ Q1w w' x ll ∧ Ext w w':=by
 obtain ⟨i0,hi,hz0,hz1,hz2⟩:=info_parts Tryz.Z5k;obtain ⟨A,cap,rfl,hl,hcap,hc⟩:=hv.opened;have HC:=Lib.hid hc;clear hv hc;go_enter Tryz.func131,Tryz.ntmps131;go_wp2
 go_loopw [5,10] (fun o i wr=>∃ (k:Nat) (vs:List Value),k ≤ ll.length ∧ i = .int .i64 k ∧ Q0q wr w.heap.size 39 idV o vs ∧ Reads w vs (ll.take k) ∧ Ext w wr) (fun _ i _=>ll.length - (intOf i).toNat)
 case atStart=>exact ⟨0,[],Nat.zero_le _,rfl,Q0q.nil _ _ _ _,⟨rfl,fun i hi=>by simp at hi⟩,Ext.refl _⟩
 case round =>
  obtain ⟨k,vs,hk,rfl,hown,hrd,hx⟩:=hrel
  by_cases hlt:k < ll.length
  · obtain ⟨b,off,m,rfl,hbw,hcell,hm⟩:=HC.out k hlt
    obtain ⟨Am,cm,rfl,_,_,_⟩:=hm.opened;obtain ⟨ln,hln⟩:∃ ln,(ll.getD k []).length = ln:=⟨_,rfl⟩;rw [hln] at hcell hm;have HM:=Lib.hid hm;clear hln;replace hcell:=hx.cell hcell;have hvs:vs.length = k:=by rw [hrd.1,List.length_take]; omega
    have HRD:=Lib.hid hrd;clear hm hrd;go_wp2_with (first | (go_at_call 132; refine (Z0o _ _).mono ?_; rintro e w9 ⟨rfl,rfl⟩) | (at_builtin; refine wpList_append_own _ rfl _ _ 29 rfl (w.heap.size) 39 i0 (.slice none 0 0) 1 24 Tryz.underlying29 hi hz0 hz1 hz2 rfl (by decide) _ _ _ rfl (World.ownsRow.alloc hown _) ⟨wr.heap.size,0,none⟩ 1 1 [.slice Am ln cm] rfl rfl ?_ ?_ ?_ ?_ ?_ ?_; exact Q9g _ _ _; (focus (simp [Value.oneCell'])); (focus (unfold maxLen; omega)); (focus omega); (focus (have:=hx.size; simp at this ⊢; omega)); intro v' w1 hown' hgrow _))
    have hx':=Q5h hx hown (Nat.le_refl _) hgrow;go_wp2;go_roundw
    case rel=>exact ⟨k + 1,vs ++ [.slice Am ln cm],by omega,by go_num,Q0q.snoc (x:=Value.slice Am ln cm) hown',X5u HRD.out hlt HM.out,hx'⟩
    case measure=>simp [intOf]; omega
  · have HE:Hid (ll.take k = ll):=by rw [List.take_of_length_le (by omega)]; exact rfl
    have hvl:vs.length ≤ 17592186043904:=by rw [hrd.1,List.length_take]; omega
    have HRD:=Lib.hid hrd;clear hrd;go_wp2;go_ret;exact ⟨_,rfl,hown.Z5y (by rw [← HE.out]; exact HRD.out.ext hx) (by omega),hx⟩
end Go.Proofs
