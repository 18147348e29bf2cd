/- DERIVED: THE SHELF's CONTRACTS AT THIS DUMP, IN PLAIN WORDS (tools/lay-plain.mjs out of 'TryzShelf.lean', which tools/lay-shelf.mjs wrote): THE SAME DECLARATIONS UNDER THE SAME NAMES: 'import', 'namespace', 'open', 'def', 'theorem' AND NOTHING ELSE: no command of the shelf's: FOR A HAND-IN. Each laying: the table of numbers ('.._ren') and one theorem, a field a fact of the dump's own or the kernel's comparison; each contract: ONE APPLICATION. Contract: the numbers that are written in the bits of a number. What the listed tables give; small facts on the program for the rows. Contracts: a list of sets as a list of lists. -/
import Derived.Ground.Names7Prog
import Derived.Ground.SlsfProg
import Derived.Shelf.Spec.TrailingZeros
import Derived.Shelf.SlSortCmp.Whole1
import Derived.Shelf.SlGeneric
import Derived.Shelf.Strings.Builder1
import Derived.Shelf.Strings.Builder2
import Derived.Shelf.Strings.OnBuilder
import Derived.Shelf.Small.Bits
import Derived.Shelf.Small.Wraps
import Derived.Shelf.Strings.BuilderF
import Derived.Shelf.Strings.BuilderK
import Derived.Shelf.Strings.Builder2Cap
import Derived.Shelf.Strconv.Itoa0
import Derived.Shelf.Strconv.Itoa1
import Derived.Shelf.LaysM
import Derived.Shelf.Strconv.Itoa2
import Derived.Shelf.Strconv.Itoa3
import Derived.Shelf.Strings.Search1
import Derived.Shelf.Strings.Search2
import Derived.Shelf.Strings.Search3
import Derived.Shelf.Strings.Cut
import Derived.Shelf.Strings.Count
import Derived.Shelf.Strings.Shaped
import Derived.Shelf.Strings.Split
import Derived.Shelf.Unicode.DecodeSlow
import Derived.Shelf.Strings.BuilderCap
import Derived.Shelf.Slices.Turned
import Derived.Ground.Names2Prog
import Derived.Shelf.Slices.Clone
import Derived.Shelf.Slices.SearchI
import Derived.Ground.SlgnProg
import Derived.Shelf.SlicesE.Clone
import Derived.Test.YtgopmebjbkdfgaaGreatDoorProg
import Derived.Test.YtgopmebjbkdfgaaGreatDoorFm12
import Derived.Test.YtgopmebjbkdfgaaGreatDoorFm01
import Derived.Test.YtgopmebjbkdfgaaGreatDoorRows
import Derived.Test.YtgopmebjbkdfgaaGreatDoorTie
import Derived.Test.YtgopmebjbkdfgaaGreatDoorCards
import Derived.ProofKit
import Derived.OpenShut
import Derived.LaidMore
import Derived.Lay
import Derived.Lib.LaidTab
import Derived.SevenTiedAt
import Derived.Stop.Joined
set_option maxRecDepth 1000000
set_option maxHeartbeats 64000000
set_option linter.unusedVariables false
set_option linter.unusedSimpArgs false
set_option linter.constructorNameAsVariable false
namespace Go.Proofs
open Go.Shelf
open Go.RowKit in
open Go.RowKit in
open Go.RowKit in
open Go.RowKit in
open Go.RowKit in
def Tryz.lays156_ren:Go.Shelf.Ren:=⟨fun | 156=>80 | 165=>127 | 166=>128 | 169=>129 | 240=>148 | 241=>149 | 276=>169 | 277=>170 | n=>n,fun | 31=>72 | 9=>9 | 3=>3 | 4=>4 | 0=>0 | 20=>20 | 72=>190 | 76=>194 | 70=>188 | 37=>122 | 75=>193 | 127=>211 | 164=>226 | 5=>5 | 80=>196 | n=>n,fun | n=>n⟩
theorem Tryz.lays156:Go.Proofs.Lays.n156 Tryz.prog Tryz.lays156_ren:={
 mixed:=by kernel_rfl
 f156:=Tryz.func80.trans (congrArg some (by kernel_rfl))
 f165:=Tryz.func127.trans (congrArg some (by kernel_rfl))
 f166:=Tryz.func128.trans (congrArg some (by kernel_rfl))
 f169:=Tryz.func129.trans (congrArg some (by kernel_rfl))
 f240:=Tryz.func148.trans (congrArg some (by kernel_rfl))
 f241:=Tryz.func149.trans (congrArg some (by kernel_rfl))
 f276:=Tryz.func169.trans (congrArg some (by kernel_rfl))
 f277:=Tryz.func170.trans (congrArg some (by kernel_rfl))
 t0:=Tryz.underlying0
 a0:=Tryz.isAgg0
 z0:=Tryz.sizeOf0
 v0:=Tryz.zeroValue0
 t3:=Tryz.underlying3
 a3:=Tryz.isAgg3
 z3:=Tryz.sizeOf3
 v3:=Tryz.zeroValue3
 t4:=Tryz.underlying4
 a4:=Tryz.isAgg4
 z4:=Tryz.sizeOf4
 v4:=Tryz.zeroValue4
 t9:=Tryz.underlying9
 a9:=Tryz.isAgg9
 z9:=Tryz.sizeOf9
 v9:=Tryz.zeroValue9
 t20:=Tryz.underlying20
 a20:=Tryz.isAgg20
 z20:=Tryz.sizeOf20
 v20:=Tryz.zeroValue20
 t31:=Tryz.underlying72
 a31:=Tryz.isAgg72
 z31:=Tryz.sizeOf72
 v31:=Tryz.zeroValue72
 t37:=Tryz.underlying122
 a37:=Tryz.isAgg122
 z37:=Tryz.sizeOf122
 v37:=Tryz.zeroValue122
 t70:=Tryz.underlying188
 a70:=Tryz.isAgg188
 z70:=Tryz.sizeOf188
 v70:=Tryz.zeroValue188
 t72:=Tryz.underlying190
 a72:=Tryz.isAgg190
 z72:=Tryz.sizeOf190
 v72:=Tryz.zeroValue190
 t75:=Tryz.underlying193
 a75:=Tryz.isAgg193
 z75:=Tryz.sizeOf193
 v75:=Tryz.zeroValue193
 t76:=Tryz.underlying194
 a76:=Tryz.isAgg194
 z76:=Tryz.sizeOf194
 v76:=Tryz.zeroValue194
 t127:=Tryz.underlying211
 a127:=Tryz.isAgg211
 z127:=Tryz.sizeOf211
 v127:=Tryz.zeroValue211
 t164:=Tryz.underlying226
 a164:=Tryz.isAgg226
 z164:=Tryz.sizeOf226
 v164:=Tryz.zeroValue226 }
theorem Tryz.Builder_Extra_156:Builder.Extra Tryz.prog Tryz.lays156_ren:={
 sizeBuilder:=by kernel_rfl
 liesBuilder:=by kernel_rfl
 t5:=Tryz.underlying5
 a5:=Tryz.isAgg5
 z5:=Tryz.sizeOf5
 v5:=Tryz.zeroValue5
 infoByte:=by kernel_rfl
 cellsByte:=by kernel_rfl
 sizeByte:=by kernel_rfl
 neB5:=by decide }
open Go.RowKit in
open Go.RowKit in
theorem Tryz.strings_Join (bk o c:Nat) (xs:List ByteArray) (sep:ByteArray) (w:World) (hcells:∀ (j:Nat) x,xs[j]? = some x -> w.cell? ⟨bk,o + j,none⟩ = some (.string x)) (hbk:bk < w.heap.size) (hN:xs.length <= 140737488355328) (hcap:xs.length <= c) (hlen:(Lib.join (xs.map (·.data.toList)) sep.data.toList).length <= 140737488355328) :
    Calls Tryz.prog 80 #[.slice (some ⟨bk,o,none⟩) xs.length c,.string sep] w fun e w'=>e = .returned (.string ⟨(Lib.join (xs.map (·.data.toList)) sep.data.toList).toArray⟩) /\ Below w.heap.size w w':=Any.strings_Join Tryz.lays156 Tryz.Builder_Extra_156 bk o c xs sep w hcells hbk hN hcap hlen
def Tryz.Y3f:Go.Shelf.Ren:=⟨fun | 125=>146 | 128=>166 | 129=>167 | n=>n,fun | 46=>205 | 3=>3 | 51=>215 | 53=>217 | 4=>4 | 5=>5 | 9=>9 | n=>n,fun | n=>n⟩
theorem Tryz.lays125:Go.Proofs.Lays.n125 Tryz.prog Tryz.Y3f:={
 mixed:=by kernel_rfl
 f125:=Tryz.func146.trans (congrArg some (by kernel_rfl))
 f128:=Tryz.func166.trans (congrArg some (by kernel_rfl))
 f129:=Tryz.func167.trans (congrArg some (by kernel_rfl))
 t3:=Tryz.underlying3
 a3:=Tryz.isAgg3
 z3:=Tryz.sizeOf3
 v3:=Tryz.zeroValue3
 t4:=Tryz.underlying4
 a4:=Tryz.isAgg4
 z4:=Tryz.sizeOf4
 v4:=Tryz.zeroValue4
 t5:=Tryz.underlying5
 a5:=Tryz.isAgg5
 z5:=Tryz.sizeOf5
 v5:=Tryz.zeroValue5
 t9:=Tryz.underlying9
 a9:=Tryz.isAgg9
 z9:=Tryz.sizeOf9
 v9:=Tryz.zeroValue9
 t46:=Tryz.underlying205
 a46:=Tryz.isAgg205
 z46:=Tryz.sizeOf205
 v46:=Tryz.zeroValue205
 t51:=Tryz.underlying215
 a51:=Tryz.isAgg215
 z51:=Tryz.sizeOf215
 v51:=Tryz.zeroValue215
 t53:=Tryz.underlying217
 a53:=Tryz.isAgg217
 z53:=Tryz.sizeOf217
 v53:=Tryz.zeroValue217 }
theorem Tryz.bits_Len (x:Int) (w:World) (h0:0 <= x) (h1:x <= 18446744073709551615) :
    Calls Tryz.prog 146 #[.int .u64 x] w fun e w'=>e = .returned (.int .i64 (Lib.bitLen x.toNat)) /\ w' = w:=Any.bits_Len Tryz.lays125 x w h0 h1
open Go.RowKit in
open Go.RowKit in
open Go.RowKit in
open Go.RowKit in
open Go.RowKit in
open Go.RowKit in
open Go.RowKit in
open Go.RowKit in
open Go.RowKit in
open Go.RowKit in
open Go.Lib in
open Go.Lib in
open Go.Lib in
open Go.Lib in
open Go.RowKit Go.Sort Go.Lib in
open Go.RowKit Go.Sort Go.Lib in
open Go.RowKit Go.Sort Go.Lib in
open Go.RowKit Go.Sort Go.Lib in
open Go.RowKit Go.Sort Go.Lib in
open Go.RowKit Go.Sort Go.Lib in
def Tryz.Y3m:Go.Shelf.Ren:=⟨fun | 171=>131 | 243=>150 | 246=>171 | 283=>185 | 284=>186 | 285=>187 | 286=>188 | 129=>167 | 317=>195 | 318=>196 | 319=>197 | 320=>144 | 337=>156 | 338=>157 | n=>n,fun | 3=>3 | 9=>9 | 2=>2 | 4=>4 | 171=>240 | 0=>0 | 53=>217 | 37=>122 | 5=>5 | 173=>242 | 212=>252 | 51=>215 | 20=>20 | 213=>253 | 46=>205 | 232=>232 | 233=>233 | n=>n,fun | 17=>3 | 18=>1 | 19=>2 | n=>n⟩
theorem Tryz.lays171:Go.Proofs.Lays.n171 Tryz.prog Tryz.Y3m:={
 mixed:=by kernel_rfl
 f129:=Tryz.func167.trans (congrArg some (by kernel_rfl))
 f171:=Tryz.func131.trans (congrArg some (by kernel_rfl))
 f243:=Tryz.func150.trans (congrArg some (by kernel_rfl))
 f246:=Tryz.func171.trans (congrArg some (by kernel_rfl))
 f283:=Tryz.func185.trans (congrArg some (by kernel_rfl))
 f284:=Tryz.func186.trans (congrArg some (by kernel_rfl))
 f285:=Tryz.func187.trans (congrArg some (by kernel_rfl))
 f286:=Tryz.func188.trans (congrArg some (by kernel_rfl))
 f317:=Tryz.func195.trans (congrArg some (by kernel_rfl))
 f318:=Tryz.func196.trans (congrArg some (by kernel_rfl))
 f319:=Tryz.func197.trans (congrArg some (by kernel_rfl))
 f320:=Tryz.func144.trans (congrArg some (by kernel_rfl))
 f337:=Tryz.func156.trans (congrArg some (by kernel_rfl))
 f338:=Tryz.func157.trans (congrArg some (by kernel_rfl))
 t0:=Tryz.underlying0
 a0:=Tryz.isAgg0
 z0:=Tryz.sizeOf0
 v0:=Tryz.zeroValue0
 t2:=Tryz.underlying2
 a2:=Tryz.isAgg2
 z2:=Tryz.sizeOf2
 v2:=Tryz.zeroValue2
 t3:=Tryz.underlying3
 a3:=Tryz.isAgg3
 z3:=Tryz.sizeOf3
 v3:=Tryz.zeroValue3
 t4:=Tryz.underlying4
 a4:=Tryz.isAgg4
 z4:=Tryz.sizeOf4
 v4:=Tryz.zeroValue4
 t5:=Tryz.underlying5
 a5:=Tryz.isAgg5
 z5:=Tryz.sizeOf5
 v5:=Tryz.zeroValue5
 t9:=Tryz.underlying9
 a9:=Tryz.isAgg9
 z9:=Tryz.sizeOf9
 v9:=Tryz.zeroValue9
 t20:=Tryz.underlying20
 a20:=Tryz.isAgg20
 z20:=Tryz.sizeOf20
 v20:=Tryz.zeroValue20
 t37:=Tryz.underlying122
 a37:=Tryz.isAgg122
 z37:=Tryz.sizeOf122
 v37:=Tryz.zeroValue122
 t46:=Tryz.underlying205
 a46:=Tryz.isAgg205
 z46:=Tryz.sizeOf205
 v46:=Tryz.zeroValue205
 t51:=Tryz.underlying215
 a51:=Tryz.isAgg215
 z51:=Tryz.sizeOf215
 v51:=Tryz.zeroValue215
 t53:=Tryz.underlying217
 a53:=Tryz.isAgg217
 z53:=Tryz.sizeOf217
 v53:=Tryz.zeroValue217
 t171:=Tryz.underlying240
 a171:=Tryz.isAgg240
 z171:=Tryz.sizeOf240
 v171:=Tryz.zeroValue240
 t173:=Tryz.underlying242
 a173:=Tryz.isAgg242
 z173:=Tryz.sizeOf242
 v173:=Tryz.zeroValue242
 t212:=Tryz.underlying252
 a212:=Tryz.isAgg252
 z212:=Tryz.sizeOf252
 v212:=Tryz.zeroValue252
 t213:=Tryz.underlying253
 a213:=Tryz.isAgg253
 z213:=Tryz.sizeOf253
 t232:=Tryz.underlying232
 a232:=Tryz.isAgg232
 z232:=Tryz.sizeOf232
 v232:=Tryz.zeroValue232
 t233:=Tryz.underlying233
 a233:=Tryz.isAgg233
 z233:=Tryz.sizeOf233
 v233:=Tryz.zeroValue233
 g17:=by kernel_rfl
 g18:=by kernel_rfl
 g19:=by kernel_rfl }
open Go.RowKit Go.Sort Go.Lib in
theorem Tryz.strconv_Itoa_small (i:Nat) (hi:i < 100) (w:World) :
    Calls Tryz.prog 131 #[.int .i64 i] w fun e w'=>e = .returned (.string ⟨(Lib.decDigits i).toArray⟩) /\ w' = w:=Any.strconv_Itoa_small Tryz.lays171 i hi w
open Go.RowKit Go.Lib in
open Go.RowKit Go.Lib in
open Go.RowKit Go.Lib in
open Go.RowKit Go.Lib in
open Go.RowKit Go.Lib in
open Go.RowKit Go.Lib in
open Go.RowKit Go.Lib in
open Go.RowKit Go.Lib in
open Go.RowKit Go.Lib in
open Go.RowKit Go.Lib in
open Go.RowKit Go.Lib in
open Go.RowKit Go.Lib in
open Go.RowKit Go.Lib in
open Go.RowKit Go.Lib in
open Go.RowKit Go.Lib in
open Go.RowKit Go.Lib in
open Go.RowKit Go.Lib in
open Go.RowKit Go.Lib in
open Go.RowKit Go.Lib in
open Go.RowKit Go.Lib in
open Go.RowKit Go.Lib in
open Go.Lib in
open Go.Lib in
open Go.Lib in
open Go.Lib in
open Go.Lib in
open Go.Lib in
open Go.Lib in
open Go.Lib in
def Tryz.Y0f:Go.Shelf.Ren:=⟨fun | 15=>108 | n=>n,fun | 22=>40 | 3=>3 | 4=>4 | n=>n,fun | n=>n⟩
theorem Tryz.laysNm215:Go.Proofs.Lays2.n15 Tryz.prog Tryz.Y0f:={
 mixed:=by kernel_rfl
 f15:=Tryz.func108.trans (congrArg some (by kernel_rfl))
 t3:=Tryz.underlying3
 a3:=Tryz.isAgg3
 z3:=Tryz.sizeOf3
 v3:=Tryz.zeroValue3
 t4:=Tryz.underlying4
 a4:=Tryz.isAgg4
 z4:=Tryz.sizeOf4
 v4:=Tryz.zeroValue4
 t22:=Tryz.underlying40
 a22:=Tryz.isAgg40
 z22:=Tryz.sizeOf40
 v22:=Tryz.zeroValue40
 i3:=by kernel_rfl }
open Go.RowKit Go.Lib in
theorem Tryz.slices_Clone_int (b off n c:Nat) (zs:List Int) (w:World) (hz:n <= zs.length) (hbig:n * 8 <= 140737488355328) (hc:∀ j,j < zs.length -> w.cell? ⟨b,off + j,none⟩ = some (.int .i64 (zs.getD j 0))) :
    Calls Tryz.prog 108 #[.slice (some ⟨b,off,none⟩) n c] w fun e w'=>∃ v',e = .returned v' /\ w'.ownsRow w.heap.size 3 1 v' n ((zs.take n).map (Value.int .i64)) /\ v' ≠ .slice none 0 0 /\ Below w.heap.size w w':=Any.slices_Clone_int Tryz.laysNm215 b off n c zs w hz hbig hc
open Go.RowKit Go.Lib in
theorem Tryz.slices_Clone_int_nil (n c:Nat) (w:World) :
    Calls Tryz.prog 108 #[.slice none n c] w fun e w'=>e = .returned (.slice none 0 0) /\ w' = w:=Any.slices_Clone_int_nil Tryz.laysNm215 n c w
open Go.RowKit Go.Lib in
theorem Tryz.slices_Clone_int_zero (a:Addr) (c:Nat) (w:World) :
    Calls Tryz.prog 108 #[.slice (some a) 0 c] w fun e w'=>∃ v',e = .returned v' /\ w'.ownsRow w.heap.size 3 1 v' 0 [] /\ v' ≠ .slice none 0 0 /\ Below w.heap.size w w':=Any.slices_Clone_int_zero Tryz.laysNm215 a c w
open Go.RowKit Go.Lib in
open Go.RowKit Go.Lib in
open Go.RowKit Go.Lib in
def Tryz.Y4b:Go.Shelf.Ren:=⟨fun | 6=>121 | 15=>146 | 14=>145 | 28=>166 | 29=>167 | 20=>158 | 21=>159 | 22=>160 | 23=>161 | 24=>162 | 25=>163 | 26=>164 | 27=>165 | 46=>179 | 47=>180 | 48=>181 | 49=>182 | 50=>183 | 57=>194 | n=>n,fun | 22=>179 | 24=>180 | 25=>183 | 3=>3 | 39=>205 | 0=>0 | 53=>215 | 55=>217 | 4=>4 | 46=>220 | 45=>219 | 50=>145 | 5=>5 | 9=>9 | 66=>234 | 70=>238 | 76=>248 | 77=>249 | n=>n,fun | n=>n⟩
theorem Tryz.sortSet:Go.Proofs.SlLaysF.n6 Tryz.prog Tryz.Y4b:={
 mixed:=by kernel_rfl
 f6:=⟨Tryz.f121.name,by decide,Tryz.func121.trans (congrArg some (by kernel_rfl))⟩
 f14:=⟨Tryz.f145.name,by decide,Tryz.func145.trans (congrArg some (by kernel_rfl))⟩
 f15:=Tryz.func146.trans (congrArg some (by kernel_rfl))
 f20:=⟨Tryz.f158.name,by decide,Tryz.func158.trans (congrArg some (by kernel_rfl))⟩
 f21:=⟨Tryz.f159.name,by decide,Tryz.func159.trans (congrArg some (by kernel_rfl))⟩
 f22:=⟨Tryz.f160.name,by decide,Tryz.func160.trans (congrArg some (by kernel_rfl))⟩
 f23:=⟨Tryz.f161.name,by decide,Tryz.func161.trans (congrArg some (by kernel_rfl))⟩
 f24:=⟨Tryz.f162.name,by decide,Tryz.func162.trans (congrArg some (by kernel_rfl))⟩
 f25:=⟨Tryz.f163.name,by decide,Tryz.func163.trans (congrArg some (by kernel_rfl))⟩
 f26:=⟨Tryz.f164.name,by decide,Tryz.func164.trans (congrArg some (by kernel_rfl))⟩
 f27:=⟨Tryz.f165.name,by decide,Tryz.func165.trans (congrArg some (by kernel_rfl))⟩
 f28:=Tryz.func166.trans (congrArg some (by kernel_rfl))
 f29:=Tryz.func167.trans (congrArg some (by kernel_rfl))
 f46:=⟨Tryz.f179.name,by decide,Tryz.func179.trans (congrArg some (by kernel_rfl))⟩
 f47:=Tryz.func180.trans (congrArg some (by kernel_rfl))
 f48:=Tryz.func181.trans (congrArg some (by kernel_rfl))
 f49:=⟨Tryz.f182.name,by decide,Tryz.func182.trans (congrArg some (by kernel_rfl))⟩
 f50:=⟨Tryz.f183.name,by decide,Tryz.func183.trans (congrArg some (by kernel_rfl))⟩
 f57:=⟨Tryz.f194.name,by decide,Tryz.func194.trans (congrArg some (by kernel_rfl))⟩
 t0:=Tryz.underlying0
 a0:=Tryz.isAgg0
 z0:=Tryz.sizeOf0
 v0:=Tryz.zeroValue0
 t3:=Tryz.underlying3
 a3:=Tryz.isAgg3
 z3:=Tryz.sizeOf3
 v3:=Tryz.zeroValue3
 t4:=Tryz.underlying4
 a4:=Tryz.isAgg4
 z4:=Tryz.sizeOf4
 v4:=Tryz.zeroValue4
 t5:=Tryz.underlying5
 a5:=Tryz.isAgg5
 z5:=Tryz.sizeOf5
 v5:=Tryz.zeroValue5
 t9:=Tryz.underlying9
 a9:=Tryz.isAgg9
 z9:=Tryz.sizeOf9
 v9:=Tryz.zeroValue9
 t22:=Tryz.underlying179
 a22:=Tryz.isAgg179
 z22:=Tryz.sizeOf179
 v22:=Tryz.zeroValue179
 a24:=Tryz.isAgg180
 z24:=Tryz.sizeOf180
 t25:=Tryz.underlying183
 a25:=Tryz.isAgg183
 z25:=Tryz.sizeOf183
 v25:=Tryz.zeroValue183
 t39:=Tryz.underlying205
 a39:=Tryz.isAgg205
 z39:=Tryz.sizeOf205
 v39:=Tryz.zeroValue205
 t45:=Tryz.underlying219
 a45:=Tryz.isAgg219
 z45:=Tryz.sizeOf219
 v45:=Tryz.zeroValue219
 t46:=Tryz.underlying220
 a46:=Tryz.isAgg220
 z46:=Tryz.sizeOf220
 v46:=Tryz.zeroValue220
 t50:=Tryz.underlying145
 a50:=Tryz.isAgg145
 z50:=Tryz.sizeOf145
 v50:=Tryz.zeroValue145
 t53:=Tryz.underlying215
 a53:=Tryz.isAgg215
 z53:=Tryz.sizeOf215
 v53:=Tryz.zeroValue215
 t55:=Tryz.underlying217
 a55:=Tryz.isAgg217
 z55:=Tryz.sizeOf217
 v55:=Tryz.zeroValue217
 t66:=Tryz.underlying234
 a66:=Tryz.isAgg234
 z66:=Tryz.sizeOf234
 v66:=Tryz.zeroValue234
 t70:=Tryz.underlying238
 a70:=Tryz.isAgg238
 z70:=Tryz.sizeOf238
 v70:=Tryz.zeroValue238
 t76:=Tryz.underlying248
 a76:=Tryz.isAgg248
 z76:=Tryz.sizeOf248
 v76:=Tryz.zeroValue248
 t77:=Tryz.underlying249
 a77:=Tryz.isAgg249
 z77:=Tryz.sizeOf249
 v77:=Tryz.zeroValue249 }
def Tryz.Y5n:Go.Shelf.Ren:=⟨fun | 27=>144 | 28=>156 | 29=>157 | n=>n,fun | 25=>205 | 3=>3 | 27=>215 | 22=>217 | 4=>4 | 53=>232 | 0=>0 | 5=>5 | 54=>233 | n=>n,fun | 0=>1 | 1=>2 | n=>n⟩
theorem Tryz.lays27t:Go.Proofs.Lays7.n27 Tryz.prog Tryz.Y5n:={
 mixed:=by kernel_rfl
 f27:=Tryz.func144.trans (congrArg some (by kernel_rfl))
 f28:=Tryz.func156.trans (congrArg some (by kernel_rfl))
 f29:=Tryz.func157.trans (congrArg some (by kernel_rfl))
 t0:=Tryz.underlying0
 a0:=Tryz.isAgg0
 z0:=Tryz.sizeOf0
 v0:=Tryz.zeroValue0
 i0:=by kernel_rfl
 t3:=Tryz.underlying3
 a3:=Tryz.isAgg3
 z3:=Tryz.sizeOf3
 v3:=Tryz.zeroValue3
 i3:=by kernel_rfl
 t4:=Tryz.underlying4
 a4:=Tryz.isAgg4
 z4:=Tryz.sizeOf4
 v4:=Tryz.zeroValue4
 i4:=by kernel_rfl
 t5:=Tryz.underlying5
 a5:=Tryz.isAgg5
 z5:=Tryz.sizeOf5
 v5:=Tryz.zeroValue5
 i5:=by kernel_rfl
 t22:=Tryz.underlying217
 a22:=Tryz.isAgg217
 z22:=Tryz.sizeOf217
 v22:=Tryz.zeroValue217
 i22:=by kernel_rfl
 t25:=Tryz.underlying205
 a25:=Tryz.isAgg205
 z25:=Tryz.sizeOf205
 v25:=Tryz.zeroValue205
 i25:=by kernel_rfl
 t27:=Tryz.underlying215
 a27:=Tryz.isAgg215
 z27:=Tryz.sizeOf215
 v27:=Tryz.zeroValue215
 i27:=by kernel_rfl
 t53:=Tryz.underlying232
 a53:=Tryz.isAgg232
 z53:=Tryz.sizeOf232
 v53:=Tryz.zeroValue232
 i53:=by kernel_rfl
 t54:=Tryz.underlying233
 a54:=Tryz.isAgg233
 z54:=Tryz.sizeOf233
 g0:=by kernel_rfl
 g1:=by kernel_rfl }
end Go.Proofs
namespace Go.Proofs
open Go.RowKit Go.Tw Go.Flow
def Tab (w:World):Prop:=TabAt 2 Lib.deBruijn64tab w
theorem Tab.ext {w w':World} (h:Tab w) (hx:Ext w w'):Tab w':=fun j hj=>hx.cell (h j hj)
theorem Z5q {a:Nat} (h0:a ≠ 0) (h:a < 65536):∃ k,Lib.ctz 64 a = k /\ k < 16 /\ a.testBit k = true /\ ∀ j,j < k -> a.testBit j = false:=by
 have h1:2 ^ 16 = 65536:=rfl;obtain ⟨m,hm,hk⟩:=Lib.ctzFrom_spec 64 a (by omega) (Nat.lt_of_lt_of_le h (by decide))
 have e:Lib.ctz 64 a = Lib.ctzFrom 64 a:=by unfold Lib.ctz; rw [if_neg h0]
 rw [<- e] at hm hk;obtain ⟨k,hkk⟩:∃ k,Lib.ctz 64 a = k:=⟨_,rfl⟩;rw [hkk] at hm hk;have hb:a.testBit k = true:=by rw [hm,Nat.testBit_two_pow_mul]; simp
 refine ⟨k,hkk,?_,hb,fun j hj=>?_⟩
 . apply Nat.lt_of_not_le
   intro hge;rw [Nat.testBit_lt_two_pow (Nat.lt_of_lt_of_le (by omega) (Nat.pow_le_pow_right (n:=2) (by omega) hge))] at hb
   cases hb
 . rw [hm,Nat.testBit_two_pow_mul]
   simp;omega
theorem X4i (p:Nat -> Bool) {k n:Nat} (h:k < n):(List.range n).filter p = (List.range k).filter p ++ ((if p k then [k] else []) ++ (List.range' (k + 1) (n - k - 1)).filter p):=by
 have e:List.range n = List.range k ++ (k :: List.range' (k + 1) (n - k - 1)):=by
  rw [List.range_eq_range',List.range_eq_range'];have h1:n = k + (1 + (n - k - 1)):=by omega
  have h2:k :: List.range' (k + 1) (n - k - 1) = List.range' k (1 + (n - k - 1)):=by rw [Nat.add_comm 1,List.range'_succ]
  rw [h2]
  conv=>lhs; rw [h1]
  rw [<- List.range'_append];simp
 rw [e,List.filter_append,List.filter_cons]
 split <;> simp
theorem Y7w {a k:Nat} (hk:k < 16) (hb:a.testBit k = true) (hl:∀ j,j < k -> a.testBit j = false):bitsOf a = (k:Int) :: bitsOf (Q2v a (2 ^ k)):=by
 unfold bitsOf;rw [X4i _ hk,X4i (fun i=>(Q2v a (2 ^ k)).testBit i) hk];have e1:(List.range k).filter (a.testBit ·) = []:=by
  rw [List.filter_eq_nil_iff]; intro j hj; rw [hl j (List.mem_range.1 hj)]; simp
 have e2:(List.range k).filter (fun i=>(Q2v a (2 ^ k)).testBit i) = []:=by
  rw [List.filter_eq_nil_iff]; intro j hj; simp only [Q4u,hl j (List.mem_range.1 hj)]; simp
 have e3:(Q2v a (2 ^ k)).testBit k = false:=by rw [Q4u,Nat.testBit_two_pow_self]; simp
 have e4:(List.range' (k + 1) (16 - k - 1)).filter (a.testBit ·) = (List.range' (k + 1) (16 - k - 1)).filter (fun i=>(Q2v a (2 ^ k)).testBit i):=by
  apply List.filter_congr
  intro j hj;have:=List.mem_range'_1.1 hj;rw [Q4u,Nat.testBit_two_pow_of_ne (by omega)]
  simp
 rw [e1,e2,e4];simp [hb,e3]
theorem Z1z (a b:Nat):Q2v a b <= a:=by
 have h:Q2v a b &&& a = Q2v a b:=by
  apply Nat.eq_of_testBit_eq; intro i
  rw [Nat.testBit_and,Q4u];cases a.testBit i <;> simp
 rw [<- h];exact Nat.and_le_right
theorem Y9h {a k:Nat} (hb:a.testBit k = true):Q2v a (2 ^ k) < a:=by
 refine Nat.lt_of_le_of_ne (Z1z a _) fun e=>?_;have:=congrArg (fun x=>x.testBit k) e;simp only [Q4u,hb,Nat.testBit_two_pow_self] at this;cases this
theorem Y4o:bitsOf 0 = []:=rfl
theorem X8c (s:Nat):(bitsOf s).length <= 16:=by
 unfold bitsOf;rw [List.length_map];exact Nat.le_trans (List.length_filter_le _ _) (by simp)
theorem Z9t (a:Nat) (w:World) (h:a < 65536) (hT:Tab w):Calls Tryz.prog 144 #[.int .u64 a] w fun e w'=>e = .returned (.int .i64 (Lib.ctz 64 a)) /\ w' = w :=
 Any7.bits_TrailingZeros Tryz.lays27t a (by omega) w (fun _=>hT)
theorem Y3h (w:World) (s:Nat) (hs:s < 65536) (hT:Tab w) :
    Calls Tryz.prog 120 #[.int .i64 s] w fun e w'=>∃ u,e = .returned u /\ Q0r w' w.heap.size 3 (.int .i64) u (bitsOf s) /\ Ext w w':=by
 obtain ⟨i0,hi,hz0,hz1,hz2⟩:=info_parts Tryz.info3;have HT:=Lib.hid hT;have hbs:=X8c s;clear hT;go_enter Tryz.func120,Tryz.ntmps120;go_wp2
 go_loopw [0,3,4] (fun q u _ wr=>∃ (a:Nat) (l:List Int),q = .int .i64 a /\ a < 65536 /\ l ++ bitsOf a = bitsOf s /\ Q0r wr w.heap.size 3 (.int .i64) u l /\ Ext w wr) (fun q _ _ _=>(intOf q).toNat)
 case atStart=>exact ⟨s,[],rfl,hs,rfl,Q0r.nil _ _ _ _,Ext.refl _⟩
 case round =>
  obtain ⟨a,l,rfl,ha,hla,hown,hx⟩:=hrel
  by_cases hz:a = 0
  . subst hz
    have HL:Hid (l = bitsOf s):=by rw [Y4o,List.append_nil] at hla; exact hla
    clear hla;go_wp2;go_ret;exact ⟨_,rfl,by rw [<- HL.out]; exact hown,hx⟩
  . obtain ⟨k,hck,hk,hb,hl⟩:=Z5q hz ha
    have hd:=Y7w hk hb hl;have hlt:=Y9h hb;have hcl:=Q7r (n:=16) (2 ^ k) (show a < 2 ^ 16 by omega)
    have hp:=Y4v (n:=k) (by omega)
    have hp2:(2:Nat) ^ k < 2 ^ 62:=Nat.pow_lt_pow_right (by omega) (by omega)
    have han:=X0v (a:=a) (b:=2 ^ k) (by omega) hp2
    have hlen:l.length <= 16:=by
     have:=congrArg List.length hla;rw [List.length_append] at this;omega
    rw [hd] at hla;have htz:∀ w',Ext w w' -> Calls Tryz.prog 144 #[.int .u64 a] w' fun e w''=>e = .returned (.int .i64 k) /\ w'' = w':=by
     intro w' hx';have:=Z9t a w' ha (HT.out.ext hx');rw [hck] at this;exact this
    have HTZ:=Lib.hid htz;have hcv:IntKind.u64.wrap (a:Int) = (a:Int):=by unfold IntKind.wrap; simp only [IntKind.signed,IntKind.bits]; simp; omega
    have hne:(((a:Nat):Int) != 0) = true:=by simp; omega
    obtain ⟨Z,hZ⟩:∃ Z,2 ^ k = Z:=⟨_,rfl⟩;obtain ⟨Y,hY⟩:∃ Y,Q2v a Z = Y:=⟨_,rfl⟩;have hk62:(k:Int) < 64:=by omega
    rw [hZ] at hp hla han hlt hcl;rw [hY] at hla han hlt hcl;have HLA:=Lib.hid hla;clear htz hck hb hl hd hla hZ hY hp2 hbs;go_wp2_with (first | (go_at_call 144; refine (HTZ.out _ hx).mono ?_; rintro e w9 ⟨rfl,rfl⟩) | (at_builtin; refine wpList_append_own _ rfl _ _ 180 rfl (w.heap.size) 3 i0 (.int .i64 0) 1 8 Tryz.underlying180 hi hz0 hz1 hz2 rfl (by decide) _ _ _ rfl (World.ownsRow.alloc hown _) ⟨w9.heap.size,0,none⟩ 1 1 [.int .i64 k] rfl rfl ?_ ?_ ?_ ?_ ?_ ?_; exact Q7q _ _ _; (focus (simp [Value.oneCell'])); (focus (unfold maxLen; omega)); (focus omega); (focus (have:=hx.size; simp at this ⊢; omega)); intro v' w1 hown' hgrow _))
    have hx':=Q4g hx hown (Nat.le_refl _) hgrow;go_wp2;go_roundw
    case rel=>exact ⟨Y,l ++ [(k:Int)],by go_num,by omega,by rw [List.append_assoc]; exact HLA.out,Q0r.snoc hown',hx'⟩
    case measure=>simp [intOf]; omega
end Go.Proofs
namespace Go.Proofs.YtgopmebjbkdfgaaGreatDoor
open Go.ChangeShapes Go.WideShapes Go.ChangeAt Go.RowKit Go.Tw
theorem own:ownKnob Tryz.prog.godebug = none:=by kernel_rfl
theorem laidOut:laidOutB Tryz.prog = true:=by kernel_rfl
def Y9i:List (String × DataW Unit):=Rows.faultMergesRow.laid
theorem Z0m:(Rows.laid_math_bits_deBruijn64tab:DataW Unit) = Lib.tabData .u8 (List.map (fun n:Nat=>(n:Int)) Lib.deBruijn64tab):=by kernel_rfl
theorem Y4d {W:World} (h:laidMetH Tryz.prog Y9i W):Tab W:=by
 rw [MakeChecks.laidMetH_plain _ _ _ (by kernel_rfl)] at h
 obtain ⟨ps,⟨g0,t0,cs0,f0,p0,q0,hg0,ht0,hv0,hd0,⟨g1,t1,cs1,f1,p1,q1,hg1,ht1,hv1,hd1,_⟩,_⟩,_,_⟩:=h;obtain rfl:=Option.some.inj ((show Tryz.prog.globalNamed (Y9i[1]?.map (·.1)).get! = some 2 by kernel_rfl).symm.trans hg1)
 obtain ⟨t,ht⟩:∃ t,(Tryz.prog.globals[2]?).map (·.type) = some t:=⟨_,ht1⟩;obtain rfl:=Option.some.inj (ht.symm.trans ht1);have ht2:(Tryz.prog.globals[2]?).map (·.type) = some 233:=by kernel_rfl
 obtain rfl:=Option.some.inj (ht2.symm.trans ht);rw [Z0m] at hd1;have hu8:Tryz.prog.cellsOf 5 = 1:=by kernel_rfl
 have hc64:Tryz.prog.cellsOf 233 = 64:=by kernel_rfl
 have hcs:=Lib.cells_of_tab Tryz.underlying233 Tryz.underlying5 hu8 hc64 hd1;intro j hj;have:=World.var?_cell hg1 hv1 j;rw [this,<- Array.getElem?_toList,hcs];simp [hj]
end Go.Proofs.YtgopmebjbkdfgaaGreatDoor
namespace Go.Proofs
open Go.RowKit Go.Tw Go.Flow
theorem Z5d (w:World) (x:Value):Calls Tryz.prog 124 #[x] w fun e w'=>e = .returned x /\ w = w':=by
 go_enter Tryz.func124,Tryz.ntmps124;go_wp2;go_ret;exact ⟨rfl,rfl⟩
theorem X6v {w:World} {vs:List Value} {ll:List (List Int)} {v:Value} {k:Nat} (h:Reads w vs (ll.take k)) (hk:k < ll.length) (hv:Q0f w v (ll.getD k [])):Reads w (vs ++ [v]) (ll.take (k + 1)):=by
 have e:ll.take (k + 1) = ll.take k ++ [ll.getD k []]:=by rw [List.take_succ_eq_append_getElem hk]; simp [hk]
 rw [e];exact h.snoc hv
theorem X7c (w:World) (v:Value) (ll:List (List Int)) (hv:Q2b w v ll) (hle:ll.length <= 4096) :
    Calls Tryz.prog 123 #[v,.func (.func 124) #[] #[]] w fun e w'=>∃ x,e = .returned x /\ Q2b w' x ll /\ Ext w w':=by
 obtain ⟨i0,hi,hz0,hz1,hz2⟩:=info_parts Tryz.Z8r;obtain ⟨A,cap,rfl,hl,hcap,hc⟩:=hv.opened;have HC:=Lib.hid hc;clear hv hc;go_enter Tryz.func123,Tryz.ntmps123;go_wp2
 go_loopw [5,10] (fun o i wr=>∃ (k:Nat) (vs:List Value),k <= ll.length /\ i = .int .i64 k /\ Q0r wr w.heap.size 40 idV o vs /\ Reads w vs (ll.take k) /\ Ext w wr) (fun _ i _=>ll.length - (intOf i).toNat)
 case atStart=>exact ⟨0,[],Nat.zero_le _,rfl,Q0r.nil _ _ _ _,⟨rfl,fun i hi=>by simp at hi⟩,Ext.refl _⟩
 case round =>
  obtain ⟨k,vs,hk,rfl,hown,hrd,hx⟩:=hrel
  by_cases hlt:k < ll.length
  . obtain ⟨b,off,m,rfl,hbw,hcell,hm⟩:=HC.out k hlt
    obtain ⟨Am,cm,rfl,_,_,_⟩:=hm.opened;obtain ⟨ln,hln⟩:∃ ln,(ll.getD k []).length = ln:=⟨_,rfl⟩;rw [hln] at hcell hm;have HM:=Lib.hid hm;clear hln;replace hcell:=hx.cell hcell;have hvs:vs.length = k:=by rw [hrd.1,List.length_take]; omega
    have HRD:=Lib.hid hrd;clear hm hrd;go_wp2_with (first | (go_at_call 124; refine (Z5d _ _).mono ?_; rintro e w9 ⟨rfl,rfl⟩) | (at_builtin; refine wpList_append_own _ rfl _ _ 55 rfl (w.heap.size) 40 i0 (.slice none 0 0) 1 24 Tryz.underlying55 hi hz0 hz1 hz2 rfl (by decide) _ _ _ rfl (World.ownsRow.alloc hown _) ⟨wr.heap.size,0,none⟩ 1 1 [.slice Am ln cm] rfl rfl ?_ ?_ ?_ ?_ ?_ ?_; exact Q7q _ _ _; (focus (simp [Value.oneCell'])); (focus (unfold maxLen; omega)); (focus omega); (focus (have:=hx.size; simp at this ⊢; omega)); intro v' w1 hown' hgrow _))
    have hx':=Q4g hx hown (Nat.le_refl _) hgrow;go_wp2;go_roundw
    case rel=>exact ⟨k + 1,vs ++ [.slice Am ln cm],by omega,by go_num,Q0r.snoc (x:=Value.slice Am ln cm) hown',X6v HRD.out hlt HM.out,hx'⟩
    case measure=>simp [intOf]; omega
  . have HE:Hid (ll.take k = ll):=by rw [List.take_of_length_le (by omega)]; exact rfl
    have hvl:vs.length <= 17592186043904:=by rw [hrd.1,List.length_take]; omega
    have HRD:=Lib.hid hrd;clear hrd;go_wp2;go_ret;exact ⟨_,rfl,hown.J0g (by rw [<- HE.out]; exact HRD.out.ext hx) (by omega),hx⟩
end Go.Proofs
