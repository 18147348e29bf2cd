/- DERIVED: THE SHELF's CONTRACTS AT THIS DUMP, IN PLAIN WORDS (tools/lay-plain.mjs out of 'TryzShelf.lean', which tools/lay-shelf.mjs wrote): THE SAME DECLARATIONS UNDER THE SAME NAMES: 'import', 'namespace', 'open', 'def', 'theorem' AND NOTHING ELSE: no command of the shelf's: FOR A HAND-IN. Each laying: the table of numbers ('.._ren') and one theorem, a field a fact of the dump's own or the kernel's comparison; each contract: ONE APPLICATION. Contracts: weight, checkMember, checkMembers (of the program). Contracts of the law's own functions: season, rules. -/
import Derived.Ground.Names7Prog
import Derived.Ground.SlsfProg
import Derived.Shelf.Spec.TrailingZeros
import Derived.Shelf.SlSortCmp.Whole1
import Derived.Shelf.SlGeneric
import Derived.Shelf.Strings.Builder1
import Derived.Shelf.Strings.Builder2
import Derived.Shelf.Strings.OnBuilder
import Derived.Shelf.Small.Bits
import Derived.Shelf.Small.Wraps
import Derived.Shelf.Strings.BuilderF
import Derived.Shelf.Strings.BuilderK
import Derived.Shelf.Strings.Builder2Cap
import Derived.Shelf.Strconv.Itoa0
import Derived.Shelf.Strconv.Itoa1
import Derived.Shelf.LaysM
import Derived.Shelf.Strconv.Itoa2
import Derived.Shelf.Strconv.Itoa3
import Derived.Shelf.Strings.Search1
import Derived.Shelf.Strings.Search2
import Derived.Shelf.Strings.Search3
import Derived.Shelf.Strings.Cut
import Derived.Shelf.Strings.Count
import Derived.Shelf.Strings.Shaped
import Derived.Shelf.Strings.Split
import Derived.Shelf.Unicode.DecodeSlow
import Derived.Shelf.Strings.BuilderCap
import Derived.Shelf.Slices.Turned
import Derived.Ground.Names2Prog
import Derived.Shelf.Slices.Clone
import Derived.Shelf.Slices.SearchI
import Derived.Ground.SlgnProg
import Derived.Shelf.SlicesE.Clone
import Derived.Test.YthnobngcipaljaaGreatDoorProg
import Derived.Test.YthnobngcipaljaaGreatDoorPp10
import Derived.Test.YthnobngcipaljaaGreatDoorPp09
import Derived.Test.YthnobngcipaljaaGreatDoorPp06
set_option maxRecDepth 1000000
set_option maxHeartbeats 64000000
set_option linter.unusedVariables false
set_option linter.unusedSimpArgs false
set_option linter.constructorNameAsVariable false
open Go.Lib (hid)
namespace Go.Proofs
open Go.Shelf
def Tryz.lays169_ren:Go.Shelf.Ren:=⟨fun | 169=>150 | n=>n,fun | 70=>211 | 9=>9 | 0=>0 | 72=>214 | 37=>212 | 127=>253 | 3=>3 | 5=>5 | n=>n,fun | n=>n⟩
theorem Tryz.lays169:Go.Proofs.Lays.n169 Tryz.prog Tryz.lays169_ren:={
 mixed:=by kernel_rfl
 f169:=Tryz.func150.trans (congrArg some (by kernel_rfl))
 t0:=Tryz.underlying0
 a0:=Tryz.isAgg0
 z0:=Tryz.sizeOf0
 v0:=Tryz.zeroValue0
 t3:=Tryz.underlying3
 a3:=Tryz.isAgg3
 z3:=Tryz.sizeOf3
 v3:=Tryz.zeroValue3
 t9:=Tryz.underlying9
 a9:=Tryz.isAgg9
 z9:=Tryz.sizeOf9
 v9:=Tryz.zeroValue9
 t37:=Tryz.underlying212
 a37:=Tryz.isAgg212
 z37:=Tryz.sizeOf212
 v37:=Tryz.zeroValue212
 t70:=Tryz.underlying211
 a70:=Tryz.isAgg211
 z70:=Tryz.sizeOf211
 v70:=Tryz.zeroValue211
 t72:=Tryz.underlying214
 a72:=Tryz.isAgg214
 z72:=Tryz.sizeOf214
 v72:=Tryz.zeroValue214
 t127:=Tryz.underlying253
 a127:=Tryz.isAgg253
 z127:=Tryz.sizeOf253
 v127:=Tryz.zeroValue253 }
theorem Tryz.Builder_Extra_169:Builder.Extra Tryz.prog Tryz.lays169_ren:={
 sizeBuilder:=by kernel_rfl
 liesBuilder:=by kernel_rfl
 t5:=Tryz.underlying5
 a5:=Tryz.isAgg5
 z5:=Tryz.sizeOf5
 v5:=Tryz.zeroValue5
 infoByte:=by kernel_rfl
 cellsByte:=by kernel_rfl
 sizeByte:=by kernel_rfl
 neB5:=by decide }
open Go.RowKit in
open Go.RowKit in
open Go.RowKit in
theorem Tryz.Builder_String_any (B b:Nat) (l:List UInt8) (w:World) (h:Lib.IsBuilder 214 5 B b (Lib.byteCells l) w) (hBw:B <= w.heap.size) :
    Calls Tryz.prog 150 #[.pointer (some ⟨b,0,none⟩)] w fun e w'=>e=.returned (.string ⟨l.toArray⟩) /\ Below B w w':=Any.Builder_String_any Tryz.lays169 Tryz.Builder_Extra_169 B b l w h hBw
open Go.RowKit in
open Go.RowKit in
def Tryz.lays156_ren:Go.Shelf.Ren:=⟨fun | 156=>149 | 165=>180 | 166=>148 | 169=>150 | 240=>179 | 241=>193 | 276=>192 | 277=>217 | n=>n,fun | 31=>157 | 9=>9 | 3=>3 | 4=>4 | 0=>0 | 20=>20 | 72=>214 | 76=>220 | 70=>211 | 37=>212 | 75=>219 | 127=>253 | 164=>266 | 5=>5 | 80=>223 | n=>n,fun | n=>n⟩
theorem Tryz.lays156:Go.Proofs.Lays.n156 Tryz.prog Tryz.lays156_ren:={
 mixed:=by kernel_rfl
 f156:=Tryz.func149.trans (congrArg some (by kernel_rfl))
 f165:=Tryz.func180.trans (congrArg some (by kernel_rfl))
 f166:=Tryz.func148.trans (congrArg some (by kernel_rfl))
 f169:=Tryz.func150.trans (congrArg some (by kernel_rfl))
 f240:=Tryz.func179.trans (congrArg some (by kernel_rfl))
 f241:=Tryz.func193.trans (congrArg some (by kernel_rfl))
 f276:=Tryz.func192.trans (congrArg some (by kernel_rfl))
 f277:=Tryz.func217.trans (congrArg some (by kernel_rfl))
 t0:=Tryz.underlying0
 a0:=Tryz.isAgg0
 z0:=Tryz.sizeOf0
 v0:=Tryz.zeroValue0
 t3:=Tryz.underlying3
 a3:=Tryz.isAgg3
 z3:=Tryz.sizeOf3
 v3:=Tryz.zeroValue3
 t4:=Tryz.underlying4
 a4:=Tryz.isAgg4
 z4:=Tryz.sizeOf4
 v4:=Tryz.zeroValue4
 t9:=Tryz.underlying9
 a9:=Tryz.isAgg9
 z9:=Tryz.sizeOf9
 v9:=Tryz.zeroValue9
 t20:=Tryz.underlying20
 a20:=Tryz.isAgg20
 z20:=Tryz.sizeOf20
 v20:=Tryz.zeroValue20
 t31:=Tryz.underlying157
 a31:=Tryz.isAgg157
 z31:=Tryz.sizeOf157
 v31:=Tryz.zeroValue157
 t37:=Tryz.underlying212
 a37:=Tryz.isAgg212
 z37:=Tryz.sizeOf212
 v37:=Tryz.zeroValue212
 t70:=Tryz.underlying211
 a70:=Tryz.isAgg211
 z70:=Tryz.sizeOf211
 v70:=Tryz.zeroValue211
 t72:=Tryz.underlying214
 a72:=Tryz.isAgg214
 z72:=Tryz.sizeOf214
 v72:=Tryz.zeroValue214
 t75:=Tryz.underlying219
 a75:=Tryz.isAgg219
 z75:=Tryz.sizeOf219
 v75:=Tryz.zeroValue219
 t76:=Tryz.underlying220
 a76:=Tryz.isAgg220
 z76:=Tryz.sizeOf220
 v76:=Tryz.zeroValue220
 t127:=Tryz.underlying253
 a127:=Tryz.isAgg253
 z127:=Tryz.sizeOf253
 v127:=Tryz.zeroValue253
 t164:=Tryz.underlying266
 a164:=Tryz.isAgg266
 z164:=Tryz.sizeOf266
 v164:=Tryz.zeroValue266 }
theorem Tryz.Builder_Extra_156:Builder.Extra Tryz.prog Tryz.lays156_ren:={
 sizeBuilder:=by kernel_rfl
 liesBuilder:=by kernel_rfl
 t5:=Tryz.underlying5
 a5:=Tryz.isAgg5
 z5:=Tryz.sizeOf5
 v5:=Tryz.zeroValue5
 infoByte:=by kernel_rfl
 cellsByte:=by kernel_rfl
 sizeByte:=by kernel_rfl
 neB5:=by decide }
open Go.RowKit in
open Go.RowKit in
theorem Tryz.strings_Join (bk o c:Nat) (xs:List ByteArray) (sep:ByteArray) (w:World) (hcells:∀ (j:Nat) x,xs[j]?=some x -> w.cell? ⟨bk,o + j,none⟩=some (.string x)) (hbk:bk < w.heap.size) (hN:xs.length <= 140737488355328) (hcap:xs.length <= c) (hlen:(Lib.join (xs.map (·.data.toList)) sep.data.toList).length <= 140737488355328) :
    Calls Tryz.prog 149 #[.slice (some ⟨bk,o,none⟩) xs.length c,.string sep] w fun e w'=>e=.returned (.string ⟨(Lib.join (xs.map (·.data.toList)) sep.data.toList).toArray⟩) /\ Below w.heap.size w w':=Any.strings_Join Tryz.lays156 Tryz.Builder_Extra_156 bk o c xs sep w hcells hbk hN hcap hlen
open Go.RowKit in
open Go.RowKit in
open Go.RowKit in
open Go.RowKit in
open Go.RowKit in
open Go.RowKit in
open Go.RowKit in
open Go.RowKit in
open Go.RowKit in
open Go.RowKit in
open Go.Lib in
open Go.Lib in
open Go.Lib in
open Go.Lib in
open Go.RowKit Go.Sort Go.Lib in
open Go.RowKit Go.Sort Go.Lib in
open Go.RowKit Go.Sort Go.Lib in
open Go.RowKit Go.Sort Go.Lib in
open Go.RowKit Go.Sort Go.Lib in
open Go.RowKit Go.Sort Go.Lib in
def Tryz.Y5q:Go.Shelf.Ren:=⟨fun | 171=>147 | 243=>178 | 246=>191 | 283=>213 | 284=>214 | 285=>215 | 286=>216 | 129=>211 | 317=>238 | 318=>239 | 319=>240 | 320=>241 | 337=>249 | 338=>250 | n=>n,fun | 3=>3 | 9=>9 | 2=>2 | 4=>4 | 171=>288 | 0=>0 | 53=>287 | 37=>212 | 5=>5 | 173=>290 | 212=>311 | 51=>285 | 20=>20 | 213=>312 | 46=>262 | 232=>321 | 233=>322 | n=>n,fun | 17=>2 | 18=>3 | 19=>4 | n=>n⟩
theorem Tryz.lays171:Go.Proofs.Lays.n171 Tryz.prog Tryz.Y5q:={
 mixed:=by kernel_rfl
 f129:=Tryz.func211.trans (congrArg some (by kernel_rfl))
 f171:=Tryz.func147.trans (congrArg some (by kernel_rfl))
 f243:=Tryz.func178.trans (congrArg some (by kernel_rfl))
 f246:=Tryz.func191.trans (congrArg some (by kernel_rfl))
 f283:=Tryz.func213.trans (congrArg some (by kernel_rfl))
 f284:=Tryz.func214.trans (congrArg some (by kernel_rfl))
 f285:=Tryz.func215.trans (congrArg some (by kernel_rfl))
 f286:=Tryz.func216.trans (congrArg some (by kernel_rfl))
 f317:=Tryz.func238.trans (congrArg some (by kernel_rfl))
 f318:=Tryz.func239.trans (congrArg some (by kernel_rfl))
 f319:=Tryz.func240.trans (congrArg some (by kernel_rfl))
 f320:=Tryz.func241.trans (congrArg some (by kernel_rfl))
 f337:=Tryz.func249.trans (congrArg some (by kernel_rfl))
 f338:=Tryz.func250.trans (congrArg some (by kernel_rfl))
 t0:=Tryz.underlying0
 a0:=Tryz.isAgg0
 z0:=Tryz.sizeOf0
 v0:=Tryz.zeroValue0
 t2:=Tryz.underlying2
 a2:=Tryz.isAgg2
 z2:=Tryz.sizeOf2
 v2:=Tryz.zeroValue2
 t3:=Tryz.underlying3
 a3:=Tryz.isAgg3
 z3:=Tryz.sizeOf3
 v3:=Tryz.zeroValue3
 t4:=Tryz.underlying4
 a4:=Tryz.isAgg4
 z4:=Tryz.sizeOf4
 v4:=Tryz.zeroValue4
 t5:=Tryz.underlying5
 a5:=Tryz.isAgg5
 z5:=Tryz.sizeOf5
 v5:=Tryz.zeroValue5
 t9:=Tryz.underlying9
 a9:=Tryz.isAgg9
 z9:=Tryz.sizeOf9
 v9:=Tryz.zeroValue9
 t20:=Tryz.underlying20
 a20:=Tryz.isAgg20
 z20:=Tryz.sizeOf20
 v20:=Tryz.zeroValue20
 t37:=Tryz.underlying212
 a37:=Tryz.isAgg212
 z37:=Tryz.sizeOf212
 v37:=Tryz.zeroValue212
 t46:=Tryz.underlying262
 a46:=Tryz.isAgg262
 z46:=Tryz.sizeOf262
 v46:=Tryz.zeroValue262
 t51:=Tryz.underlying285
 a51:=Tryz.isAgg285
 z51:=Tryz.sizeOf285
 v51:=Tryz.zeroValue285
 t53:=Tryz.underlying287
 a53:=Tryz.isAgg287
 z53:=Tryz.sizeOf287
 v53:=Tryz.zeroValue287
 t171:=Tryz.underlying288
 a171:=Tryz.isAgg288
 z171:=Tryz.sizeOf288
 v171:=Tryz.zeroValue288
 t173:=Tryz.underlying290
 a173:=Tryz.isAgg290
 z173:=Tryz.sizeOf290
 v173:=Tryz.zeroValue290
 t212:=Tryz.underlying311
 a212:=Tryz.isAgg311
 z212:=Tryz.sizeOf311
 v212:=Tryz.zeroValue311
 t213:=Tryz.underlying312
 a213:=Tryz.isAgg312
 z213:=Tryz.sizeOf312
 t232:=Tryz.underlying321
 a232:=Tryz.isAgg321
 z232:=Tryz.sizeOf321
 v232:=Tryz.zeroValue321
 t233:=Tryz.underlying322
 a233:=Tryz.isAgg322
 z233:=Tryz.sizeOf322
 v233:=Tryz.zeroValue322
 g17:=by kernel_rfl
 g18:=by kernel_rfl
 g19:=by kernel_rfl }
open Go.RowKit Go.Sort Go.Lib in
theorem Tryz.strconv_Itoa_small (i:Nat) (hi:i < 100) (w:World) :
    Calls Tryz.prog 147 #[.int .i64 i] w fun e w'=>e=.returned (.string ⟨(Lib.decDigits i).toArray⟩) /\ w'=w:=Any.strconv_Itoa_small Tryz.lays171 i hi w
open Go.RowKit Go.Lib in
open Go.RowKit Go.Lib in
open Go.RowKit Go.Lib in
open Go.RowKit Go.Lib in
open Go.RowKit Go.Lib in
open Go.RowKit Go.Lib in
open Go.RowKit Go.Lib in
open Go.RowKit Go.Lib in
open Go.RowKit Go.Lib in
open Go.RowKit Go.Lib in
open Go.RowKit Go.Lib in
open Go.RowKit Go.Lib in
open Go.RowKit Go.Lib in
open Go.RowKit Go.Lib in
open Go.RowKit Go.Lib in
open Go.RowKit Go.Lib in
open Go.RowKit Go.Lib in
open Go.RowKit Go.Lib in
open Go.RowKit Go.Lib in
open Go.RowKit Go.Lib in
open Go.RowKit Go.Lib in
open Go.Lib in
open Go.Lib in
open Go.Lib in
open Go.Lib in
open Go.Lib in
open Go.Lib in
open Go.Lib in
open Go.Lib in
open Go.Lib in
open Go.RowKit Go.Lib in
open Go.RowKit Go.Lib in
open Go.RowKit Go.Lib in
open Go.RowKit Go.Lib in
open Go.RowKit Go.Lib in
open Go.RowKit Go.Lib in
def Tryz.Y4q:Go.Shelf.Ren:=⟨fun | 6=>159 | 15=>187 | 14=>186 | 28=>210 | 29=>211 | 20=>202 | 21=>203 | 22=>204 | 23=>205 | 24=>206 | 25=>207 | 26=>208 | 27=>209 | 46=>233 | 47=>234 | 48=>235 | 49=>236 | 50=>237 | 57=>248 | n=>n,fun | 22=>168 | 24=>166 | 25=>237 | 3=>3 | 39=>262 | 0=>0 | 53=>285 | 55=>287 | 4=>4 | 46=>278 | 45=>277 | 50=>282 | 5=>5 | 9=>9 | 66=>304 | 70=>308 | 76=>319 | 77=>89 | n=>n,fun | n=>n⟩
theorem Tryz.sortSet:Go.Proofs.SlLaysF.n6 Tryz.prog Tryz.Y4q:={
 mixed:=by kernel_rfl
 f6:=⟨Tryz.f159.name,by decide,Tryz.func159.trans (congrArg some (by kernel_rfl))⟩
 f14:=⟨Tryz.f186.name,by decide,Tryz.func186.trans (congrArg some (by kernel_rfl))⟩
 f15:=Tryz.func187.trans (congrArg some (by kernel_rfl))
 f20:=⟨Tryz.f202.name,by decide,Tryz.func202.trans (congrArg some (by kernel_rfl))⟩
 f21:=⟨Tryz.f203.name,by decide,Tryz.func203.trans (congrArg some (by kernel_rfl))⟩
 f22:=⟨Tryz.f204.name,by decide,Tryz.func204.trans (congrArg some (by kernel_rfl))⟩
 f23:=⟨Tryz.f205.name,by decide,Tryz.func205.trans (congrArg some (by kernel_rfl))⟩
 f24:=⟨Tryz.f206.name,by decide,Tryz.func206.trans (congrArg some (by kernel_rfl))⟩
 f25:=⟨Tryz.f207.name,by decide,Tryz.func207.trans (congrArg some (by kernel_rfl))⟩
 f26:=⟨Tryz.f208.name,by decide,Tryz.func208.trans (congrArg some (by kernel_rfl))⟩
 f27:=⟨Tryz.f209.name,by decide,Tryz.func209.trans (congrArg some (by kernel_rfl))⟩
 f28:=Tryz.func210.trans (congrArg some (by kernel_rfl))
 f29:=Tryz.func211.trans (congrArg some (by kernel_rfl))
 f46:=⟨Tryz.f233.name,by decide,Tryz.func233.trans (congrArg some (by kernel_rfl))⟩
 f47:=Tryz.func234.trans (congrArg some (by kernel_rfl))
 f48:=Tryz.func235.trans (congrArg some (by kernel_rfl))
 f49:=⟨Tryz.f236.name,by decide,Tryz.func236.trans (congrArg some (by kernel_rfl))⟩
 f50:=⟨Tryz.f237.name,by decide,Tryz.func237.trans (congrArg some (by kernel_rfl))⟩
 f57:=⟨Tryz.f248.name,by decide,Tryz.func248.trans (congrArg some (by kernel_rfl))⟩
 t0:=Tryz.underlying0
 a0:=Tryz.isAgg0
 z0:=Tryz.sizeOf0
 v0:=Tryz.zeroValue0
 t3:=Tryz.underlying3
 a3:=Tryz.isAgg3
 z3:=Tryz.sizeOf3
 v3:=Tryz.zeroValue3
 t4:=Tryz.underlying4
 a4:=Tryz.isAgg4
 z4:=Tryz.sizeOf4
 v4:=Tryz.zeroValue4
 t5:=Tryz.underlying5
 a5:=Tryz.isAgg5
 z5:=Tryz.sizeOf5
 v5:=Tryz.zeroValue5
 t9:=Tryz.underlying9
 a9:=Tryz.isAgg9
 z9:=Tryz.sizeOf9
 v9:=Tryz.zeroValue9
 t22:=Tryz.underlying168
 a22:=Tryz.isAgg168
 z22:=Tryz.sizeOf168
 v22:=Tryz.zeroValue168
 a24:=Tryz.isAgg166
 z24:=Tryz.sizeOf166
 t25:=Tryz.underlying237
 a25:=Tryz.isAgg237
 z25:=Tryz.sizeOf237
 v25:=Tryz.zeroValue237
 t39:=Tryz.underlying262
 a39:=Tryz.isAgg262
 z39:=Tryz.sizeOf262
 v39:=Tryz.zeroValue262
 t45:=Tryz.underlying277
 a45:=Tryz.isAgg277
 z45:=Tryz.sizeOf277
 v45:=Tryz.zeroValue277
 t46:=Tryz.underlying278
 a46:=Tryz.isAgg278
 z46:=Tryz.sizeOf278
 v46:=Tryz.zeroValue278
 t50:=Tryz.underlying282
 a50:=Tryz.isAgg282
 z50:=Tryz.sizeOf282
 v50:=Tryz.zeroValue282
 t53:=Tryz.underlying285
 a53:=Tryz.isAgg285
 z53:=Tryz.sizeOf285
 v53:=Tryz.zeroValue285
 t55:=Tryz.underlying287
 a55:=Tryz.isAgg287
 z55:=Tryz.sizeOf287
 v55:=Tryz.zeroValue287
 t66:=Tryz.underlying304
 a66:=Tryz.isAgg304
 z66:=Tryz.sizeOf304
 v66:=Tryz.zeroValue304
 t70:=Tryz.underlying308
 a70:=Tryz.isAgg308
 z70:=Tryz.sizeOf308
 v70:=Tryz.zeroValue308
 t76:=Tryz.underlying319
 a76:=Tryz.isAgg319
 z76:=Tryz.sizeOf319
 v76:=Tryz.zeroValue319
 t77:=Tryz.underlying89
 a77:=Tryz.isAgg89
 z77:=Tryz.sizeOf89
 v77:=Tryz.zeroValue89 }
end Go.Proofs
namespace Go.Proofs
open Go.RowKit Go.Tw Go.Flow
attribute [local go_sem] Oper.semAt_some
theorem Y1q (w:World) (v u:Value) (s:Q0b) (l:List Int) (hv:Q0h w v s) (hu:Q0d w u l) (hs:Q1b s) (hin:∀ x ∈ l,0 <= x /\ x < s.members.length) (hle:l.length <= 4096) :
    Calls Tryz.prog 134 #[v,u] w fun e w'=>e=.returned (.int .i64 (Q2c s l)) /\ Ext w w':=by
 obtain ⟨a,b,rfl,h2⟩:=hv;obtain ⟨A,capa,rfl,-,-,-⟩:=h2.ships.opened;obtain ⟨B,capb,rfl,hlb,hcapb,hcb⟩:=h2.members.opened;obtain ⟨U,cap,rfl,hl,hcap,hc⟩:=hu.opened;clear hu h2;have hxW:=Ext.box w (.cells #[.int .i64 s.limit,.slice A s.ships.length capa,.slice B s.members.length capb] 34);have k0:=Blk.made w 34 #[.int .i64 s.limit,.slice A s.ships.length capa,.slice B s.members.length capb];have c2:=k0.cell 2;simp only [Go.Tw.gA,Go.Tw.gB,Go.Tw.gC] at c2;clear k0;have HX:=hid hxW; clear hxW;have HS:=hid hs; clear hs;have HIN:=hid hin; clear hin;have HM:Hid (s.members.length <= 8):=HS.out.some.2;go_enter Tryz.func134,Tryz.ntmps134;go_wp2
 go_loopw [5,10] (fun n i wr=>∃ (k:Nat) (m:Int),k <= l.length /\ i=.int .i64 k /\ n=.int .i64 m /\ m=Q4d s l k /\ Ext (w.alloc (.cells #[.int .i64 s.limit,.slice A s.ships.length capa,.slice B s.members.length capb] 34)) wr) (fun _ i _=>l.length - (intOf i).toNat)
 case atStart=>exact ⟨0,0,Nat.zero_le _,rfl,rfl,rfl,Ext.refl _⟩
 case round =>
  obtain ⟨k,m,hk,rfl,rfl,hr,hx⟩:=hrel;have HR:=hid hr; clear hr;replace c2:=hx.cell c2
  by_cases hlt:k < l.length
  . obtain ⟨b,off,rfl,hcell⟩:=hc k hlt
    have h3:=HIN.out _ (List.getElem_mem hlt);rw [<- Q4s hlt] at h3;obtain ⟨j,hj⟩:∃ j:Nat,ix l k=j:=⟨(ix l k).toNat,by omega⟩
    obtain ⟨b',off',x,y,z,rfl,-,-,hcell',-⟩:=hcb j (by omega)
    replace hcell:=(HX.out.trans hx).cell hcell;replace hcell':=(HX.out.trans hx).cell hcell';have hb2:=X5d HS.out HIN.out (k + 1) (by omega)
    have hsum:Q4d s l (k + 1)=m + Q0i s.members j:=by rw [X1d hlt,HR.out,hj,Int.toNat_natCast]
    rw [hsum] at hb2;rw [hj] at hcell h3;have HSM:=hid hsum; clear hsum;have i1:(k:Int) < l.length:=by omega
    have i0:(j:Int) < s.members.length:=h3.2;have i2:0 <= m + Q0i s.members j:=hb2.1;have i3:m + Q0i s.members j <= 10000000:=by omega
    clear hb2 h3 hj hc hcb;go_wp2;go_roundw
    case rel=>exact ⟨k + 1,m + Q0i s.members j,by omega,by go_num,by go_num,HSM.out.symm,hx⟩
    case measure=>simp [intOf]; omega
  . clear hc hcb
    go_wp2;go_ret;exact ⟨Q1d (by rw [HR.out,show k=l.length by omega,Q4d,List.take_length]),HX.out.trans hx⟩
def X1k (s:Q0b) (n:Int):Bool:=decide (n < 0) || decide ((s.members.length:Int) <= n)
theorem Q5o (w:World) (v:Value) (s:Q0b) (n:Int) (hv:Q0h w v s) :
    Calls Tryz.prog 111 #[v,.int .i64 n] w fun e w'=>e=.returned (.int .i64 (Q0x (X1k s n) 10)) /\ Ext w w':=by
 obtain ⟨a,b,rfl,h2⟩:=hv;obtain ⟨A,capa,rfl,-,-,-⟩:=h2.ships.opened;obtain ⟨B,capb,rfl,-,-,-⟩:=h2.members.opened;have k0:=Blk.made w 34 #[.int .i64 s.limit,.slice A s.ships.length capa,.slice B s.members.length capb];have HX:=hid (Ext.box w (.cells #[.int .i64 s.limit,.slice A s.ships.length capa,.slice B s.members.length capb] 34));have c2:=k0.cell 2;simp only [Go.Tw.gA,Go.Tw.gB,Go.Tw.gC] at c2;clear h2 k0;go_enter Tryz.func111,Tryz.ntmps111
 by_cases h0:n < 0
 . have HQ:Hid (X1k s n=true):=hid (by unfold X1k; simp [h0])
   go_wp2_with (refine (Q6f _ _ _).mono ?_; rintro e w5 ⟨rfl,rfl⟩);go_ret;exact ⟨Q1d (by rw [HQ.out]),HX.out⟩
 . obtain ⟨q,hq⟩:∃ q,decide ((s.members.length:Int) <= n)=q:=⟨_,rfl⟩
   have HQ:Hid (X1k s n=q):=hid (by unfold X1k; rw [hq]; simp [h0])
   go_wp2_with (refine (Q6f _ _ _).mono ?_; rintro e w5 ⟨rfl,rfl⟩);go_ret;exact ⟨Q1d (by rw [HQ.out]),HX.out⟩
theorem Tryz.X6u (w:World):(isAgg 34).run Tryz.prog w=.ok true w:=by kernel_rfl
theorem Tryz.Q9o (w:World):(sizeOf 34).run Tryz.prog w=.ok 3 w:=by kernel_rfl
end Go.Proofs
namespace Go.Proofs
open Go.RowKit Go.Tw Go.Flow
attribute [local go_sem] Oper.semAt_some
theorem X1x {α:Type} {k n:Nat} {R:World -> (Nat -> Value) -> α -> Prop} {w:World} {g:Nat} {T:TypeId} {cs:Array Value} {l:List α} (h:Blk w g T cs) (hl:l.length=n) (hn:n <= 1000) (hsz:cs.size=n * k)
    (hR:∀ i (hi:i < l.length),R w (fun j=>cs.getD (i * k + j) undef) l[i]):Go.Tw.Rows k R w (.slice (some ⟨g,0,none⟩) n n) l:=by
 subst hl;refine ⟨fun j=>cs.getD j undef,⟨some ⟨g,0,none⟩,l.length,rfl,by omega,Nat.le_refl _,fun j hj=>⟨g,0,rfl,?_⟩⟩,hR⟩
 have hj':j < cs.size:=by omega
 rw [Nat.zero_add,h.cell];show cs[j]?=some (cs.getD j undef);rw [Array.getD_eq_getD_getElem?,Array.getElem?_eq_getElem hj'];rfl
theorem Q1k {w:World} {g:Nat} {T:TypeId} {cs:Array Value} {l:List Int} {n:Nat} (h:Blk w g T cs) (hc:cs=(l.map (Value.int .i64)).toArray) (hl:l.length=n) (hn:n <= 1000):Q0d w (.slice (some ⟨g,0,none⟩) n n) l:=by
 subst hc;refine X1x (k:=1) h hl hn (by simp [hl]) fun i hi=>?_
 show (List.map (Value.int .i64) l).toArray.getD (i * 1 + 0) undef=_;simp [hi]
theorem Tryz.J0k (w:World):(isAgg 38).run Tryz.prog w=.ok true w:=by kernel_rfl
theorem Tryz.Z8r (w:World):(sizeOf 38).run Tryz.prog w=.ok 1 w:=by kernel_rfl
theorem Y7g (b:UInt8):Short ⟨#[b]⟩:=by show (1:Nat) <= _; omega
theorem Q2g (w:World) :
    Calls Tryz.prog 90 #[] w fun e w'=>∃ u,e=.returned u /\ Q0h w' u Q0k /\ Ext w w':=by
 go_enter Tryz.func90,Tryz.ntmps90;go_wp2_with fail;have k0:=Blk.made w 34 #[.int .i64 30,.slice (some ⟨w.heap.size + 1,0,none⟩) 2 2,.slice (some ⟨w.heap.size + 1 + 1 + 1 + 1 + 1 + 1 + 1 + 1 + 1 + 1 + 1,0,none⟩) 3 3];have x0:=Ext.box w (.cells #[.int .i64 30,.slice (some ⟨w.heap.size + 1,0,none⟩) 2 2,.slice (some ⟨w.heap.size + 1 + 1 + 1 + 1 + 1 + 1 + 1 + 1 + 1 + 1 + 1,0,none⟩) 3 3] 34);have es0:(w.alloc (.cells #[.int .i64 30,.slice (some ⟨w.heap.size + 1,0,none⟩) 2 2,.slice (some ⟨w.heap.size + 1 + 1 + 1 + 1 + 1 + 1 + 1 + 1 + 1 + 1 + 1,0,none⟩) 3 3] 34)).heap.size=w.heap.size + 1:=by simp
 obtain ⟨X0,hX0⟩:∃ X,w.alloc (.cells #[.int .i64 30,.slice (some ⟨w.heap.size + 1,0,none⟩) 2 2,.slice (some ⟨w.heap.size + 1 + 1 + 1 + 1 + 1 + 1 + 1 + 1 + 1 + 1 + 1,0,none⟩) 3 3] 34)=X:=⟨_,rfl⟩;rw [hX0] at k0 x0 es0 ⊢;clear hX0;have k1:=Blk.made X0 3 #[.int .i64 5,.int .i64 7];have x1:=Ext.box X0 (.cells #[.int .i64 5,.int .i64 7] 3);have es1:(X0.alloc (.cells #[.int .i64 5,.int .i64 7] 3)).heap.size=X0.heap.size + 1:=by simp
 obtain ⟨X1,hX1⟩:∃ X,X0.alloc (.cells #[.int .i64 5,.int .i64 7] 3)=X:=⟨_,rfl⟩;rw [hX1] at k1 x1 es1 ⊢;clear hX1;have k2:=Blk.made X1 3 #[.int .i64 0,.int .i64 0];have x2:=Ext.box X1 (.cells #[.int .i64 0,.int .i64 0] 3);have es2:(X1.alloc (.cells #[.int .i64 0,.int .i64 0] 3)).heap.size=X1.heap.size + 1:=by simp
 obtain ⟨X2,hX2⟩:∃ X,X1.alloc (.cells #[.int .i64 0,.int .i64 0] 3)=X:=⟨_,rfl⟩;rw [hX2] at k2 x2 es2 ⊢;clear hX2;have k3:=Blk.made X2 3 #[.int .i64 20,.int .i64 40];have x3:=Ext.box X2 (.cells #[.int .i64 20,.int .i64 40] 3);have es3:(X2.alloc (.cells #[.int .i64 20,.int .i64 40] 3)).heap.size=X2.heap.size + 1:=by simp
 obtain ⟨X3,hX3⟩:∃ X,X2.alloc (.cells #[.int .i64 20,.int .i64 40] 3)=X:=⟨_,rfl⟩;rw [hX3] at k3 x3 es3 ⊢;clear hX3;have k4:=Blk.made X3 3 #[.int .i64 10,.int .i64 10];have x4:=Ext.box X3 (.cells #[.int .i64 10,.int .i64 10] 3);have es4:(X3.alloc (.cells #[.int .i64 10,.int .i64 10] 3)).heap.size=X3.heap.size + 1:=by simp
 obtain ⟨X4,hX4⟩:∃ X,X3.alloc (.cells #[.int .i64 10,.int .i64 10] 3)=X:=⟨_,rfl⟩;rw [hX4] at k4 x4 es4 ⊢;clear hX4;have k5:=Blk.made X4 3 #[.int .i64 0,.int .i64 1];have x5:=Ext.box X4 (.cells #[.int .i64 0,.int .i64 1] 3);have es5:(X4.alloc (.cells #[.int .i64 0,.int .i64 1] 3)).heap.size=X4.heap.size + 1:=by simp
 obtain ⟨X5,hX5⟩:∃ X,X4.alloc (.cells #[.int .i64 0,.int .i64 1] 3)=X:=⟨_,rfl⟩;rw [hX5] at k5 x5 es5 ⊢;clear hX5;have k6:=Blk.made X5 3 #[.int .i64 40,.int .i64 20];have x6:=Ext.box X5 (.cells #[.int .i64 40,.int .i64 20] 3);have es6:(X5.alloc (.cells #[.int .i64 40,.int .i64 20] 3)).heap.size=X5.heap.size + 1:=by simp
 obtain ⟨X6,hX6⟩:∃ X,X5.alloc (.cells #[.int .i64 40,.int .i64 20] 3)=X:=⟨_,rfl⟩;rw [hX6] at k6 x6 es6 ⊢;clear hX6;have k7:=Blk.made X6 3 #[.int .i64 10,.int .i64 25];have x7:=Ext.box X6 (.cells #[.int .i64 10,.int .i64 25] 3);have es7:(X6.alloc (.cells #[.int .i64 10,.int .i64 25] 3)).heap.size=X6.heap.size + 1:=by simp
 obtain ⟨X7,hX7⟩:∃ X,X6.alloc (.cells #[.int .i64 10,.int .i64 25] 3)=X:=⟨_,rfl⟩;rw [hX7] at k7 x7 es7 ⊢;clear hX7;have k8:=Blk.made X7 3 #[.int .i64 0,.int .i64 1];have x8:=Ext.box X7 (.cells #[.int .i64 0,.int .i64 1] 3);have es8:(X7.alloc (.cells #[.int .i64 0,.int .i64 1] 3)).heap.size=X7.heap.size + 1:=by simp
 obtain ⟨X8,hX8⟩:∃ X,X7.alloc (.cells #[.int .i64 0,.int .i64 1] 3)=X:=⟨_,rfl⟩;rw [hX8] at k8 x8 es8 ⊢;clear hX8;have k9:=Blk.made X8 3 #[.int .i64 20,.int .i64 20];have x9:=Ext.box X8 (.cells #[.int .i64 20,.int .i64 20] 3);have es9:(X8.alloc (.cells #[.int .i64 20,.int .i64 20] 3)).heap.size=X8.heap.size + 1:=by simp
 obtain ⟨X9,hX9⟩:∃ X,X8.alloc (.cells #[.int .i64 20,.int .i64 20] 3)=X:=⟨_,rfl⟩;rw [hX9] at k9 x9 es9 ⊢;clear hX9;have k10:=Blk.made X9 3 #[.int .i64 10,.int .i64 10];have x10:=Ext.box X9 (.cells #[.int .i64 10,.int .i64 10] 3);have es10:(X9.alloc (.cells #[.int .i64 10,.int .i64 10] 3)).heap.size=X9.heap.size + 1:=by simp
 obtain ⟨X10,hX10⟩:∃ X,X9.alloc (.cells #[.int .i64 10,.int .i64 10] 3)=X:=⟨_,rfl⟩;rw [hX10] at k10 x10 es10 ⊢;clear hX10;have k11:=Blk.made X10 69 #[.string ⟨#[97]⟩,.int .i64 2,.slice (some ⟨w.heap.size + 1 + 1,0,none⟩) 2 2,.slice (some ⟨w.heap.size + 1 + 1 + 1,0,none⟩) 2 2,.slice (some ⟨w.heap.size + 1 + 1 + 1 + 1,0,none⟩) 2 2,.string ⟨#[98]⟩,.int .i64 1,.slice (some ⟨w.heap.size + 1 + 1 + 1 + 1 + 1,0,none⟩) 2 2,.slice (some ⟨w.heap.size + 1 + 1 + 1 + 1 + 1 + 1,0,none⟩) 2 2,.slice (some ⟨w.heap.size + 1 + 1 + 1 + 1 + 1 + 1 + 1,0,none⟩) 2 2,.string ⟨#[99]⟩,.int .i64 1,.slice (some ⟨w.heap.size + 1 + 1 + 1 + 1 + 1 + 1 + 1 + 1,0,none⟩) 2 2,.slice (some ⟨w.heap.size + 1 + 1 + 1 + 1 + 1 + 1 + 1 + 1 + 1,0,none⟩) 2 2,.slice (some ⟨w.heap.size + 1 + 1 + 1 + 1 + 1 + 1 + 1 + 1 + 1 + 1,0,none⟩) 2 2];have x11:=Ext.box X10 (.cells #[.string ⟨#[97]⟩,.int .i64 2,.slice (some ⟨w.heap.size + 1 + 1,0,none⟩) 2 2,.slice (some ⟨w.heap.size + 1 + 1 + 1,0,none⟩) 2 2,.slice (some ⟨w.heap.size + 1 + 1 + 1 + 1,0,none⟩) 2 2,.string ⟨#[98]⟩,.int .i64 1,.slice (some ⟨w.heap.size + 1 + 1 + 1 + 1 + 1,0,none⟩) 2 2,.slice (some ⟨w.heap.size + 1 + 1 + 1 + 1 + 1 + 1,0,none⟩) 2 2,.slice (some ⟨w.heap.size + 1 + 1 + 1 + 1 + 1 + 1 + 1,0,none⟩) 2 2,.string ⟨#[99]⟩,.int .i64 1,.slice (some ⟨w.heap.size + 1 + 1 + 1 + 1 + 1 + 1 + 1 + 1,0,none⟩) 2 2,.slice (some ⟨w.heap.size + 1 + 1 + 1 + 1 + 1 + 1 + 1 + 1 + 1,0,none⟩) 2 2,.slice (some ⟨w.heap.size + 1 + 1 + 1 + 1 + 1 + 1 + 1 + 1 + 1 + 1,0,none⟩) 2 2] 69);have es11:(X10.alloc (.cells #[.string ⟨#[97]⟩,.int .i64 2,.slice (some ⟨w.heap.size + 1 + 1,0,none⟩) 2 2,.slice (some ⟨w.heap.size + 1 + 1 + 1,0,none⟩) 2 2,.slice (some ⟨w.heap.size + 1 + 1 + 1 + 1,0,none⟩) 2 2,.string ⟨#[98]⟩,.int .i64 1,.slice (some ⟨w.heap.size + 1 + 1 + 1 + 1 + 1,0,none⟩) 2 2,.slice (some ⟨w.heap.size + 1 + 1 + 1 + 1 + 1 + 1,0,none⟩) 2 2,.slice (some ⟨w.heap.size + 1 + 1 + 1 + 1 + 1 + 1 + 1,0,none⟩) 2 2,.string ⟨#[99]⟩,.int .i64 1,.slice (some ⟨w.heap.size + 1 + 1 + 1 + 1 + 1 + 1 + 1 + 1,0,none⟩) 2 2,.slice (some ⟨w.heap.size + 1 + 1 + 1 + 1 + 1 + 1 + 1 + 1 + 1,0,none⟩) 2 2,.slice (some ⟨w.heap.size + 1 + 1 + 1 + 1 + 1 + 1 + 1 + 1 + 1 + 1,0,none⟩) 2 2] 69)).heap.size=X10.heap.size + 1:=by simp
 obtain ⟨X11,hX11⟩:∃ X,X10.alloc (.cells #[.string ⟨#[97]⟩,.int .i64 2,.slice (some ⟨w.heap.size + 1 + 1,0,none⟩) 2 2,.slice (some ⟨w.heap.size + 1 + 1 + 1,0,none⟩) 2 2,.slice (some ⟨w.heap.size + 1 + 1 + 1 + 1,0,none⟩) 2 2,.string ⟨#[98]⟩,.int .i64 1,.slice (some ⟨w.heap.size + 1 + 1 + 1 + 1 + 1,0,none⟩) 2 2,.slice (some ⟨w.heap.size + 1 + 1 + 1 + 1 + 1 + 1,0,none⟩) 2 2,.slice (some ⟨w.heap.size + 1 + 1 + 1 + 1 + 1 + 1 + 1,0,none⟩) 2 2,.string ⟨#[99]⟩,.int .i64 1,.slice (some ⟨w.heap.size + 1 + 1 + 1 + 1 + 1 + 1 + 1 + 1,0,none⟩) 2 2,.slice (some ⟨w.heap.size + 1 + 1 + 1 + 1 + 1 + 1 + 1 + 1 + 1,0,none⟩) 2 2,.slice (some ⟨w.heap.size + 1 + 1 + 1 + 1 + 1 + 1 + 1 + 1 + 1 + 1,0,none⟩) 2 2] 69)=X:=⟨_,rfl⟩;rw [hX11] at k11 x11 es11 ⊢;clear hX11;replace k0:=((((((((((k0.ext x1).ext x2).ext x3).ext x4).ext x5).ext x6).ext x7).ext x8).ext x9).ext x10).ext x11;replace k1:=(((((((((k1.ext x2).ext x3).ext x4).ext x5).ext x6).ext x7).ext x8).ext x9).ext x10).ext x11;replace k2:=((((((((k2.ext x3).ext x4).ext x5).ext x6).ext x7).ext x8).ext x9).ext x10).ext x11;replace k3:=(((((((k3.ext x4).ext x5).ext x6).ext x7).ext x8).ext x9).ext x10).ext x11;replace k4:=((((((k4.ext x5).ext x6).ext x7).ext x8).ext x9).ext x10).ext x11;replace k5:=(((((k5.ext x6).ext x7).ext x8).ext x9).ext x10).ext x11;replace k6:=((((k6.ext x7).ext x8).ext x9).ext x10).ext x11;replace k7:=(((k7.ext x8).ext x9).ext x10).ext x11;replace k8:=((k8.ext x9).ext x10).ext x11;replace k9:=(k9.ext x10).ext x11;replace k10:=k10.ext x11;have e0:X0.heap.size=w.heap.size + 1:=by omega
 have e1:X1.heap.size=w.heap.size + 1 + 1:=by omega
 have e2:X2.heap.size=w.heap.size + 1 + 1 + 1:=by omega
 have e3:X3.heap.size=w.heap.size + 1 + 1 + 1 + 1:=by omega
 have e4:X4.heap.size=w.heap.size + 1 + 1 + 1 + 1 + 1:=by omega
 have e5:X5.heap.size=w.heap.size + 1 + 1 + 1 + 1 + 1 + 1:=by omega
 have e6:X6.heap.size=w.heap.size + 1 + 1 + 1 + 1 + 1 + 1 + 1:=by omega
 have e7:X7.heap.size=w.heap.size + 1 + 1 + 1 + 1 + 1 + 1 + 1 + 1:=by omega
 have e8:X8.heap.size=w.heap.size + 1 + 1 + 1 + 1 + 1 + 1 + 1 + 1 + 1:=by omega
 have e9:X9.heap.size=w.heap.size + 1 + 1 + 1 + 1 + 1 + 1 + 1 + 1 + 1 + 1:=by omega
 have e10:X10.heap.size=w.heap.size + 1 + 1 + 1 + 1 + 1 + 1 + 1 + 1 + 1 + 1 + 1:=by omega
 have e11:X11.heap.size=w.heap.size + 1 + 1 + 1 + 1 + 1 + 1 + 1 + 1 + 1 + 1 + 1 + 1:=by omega
 rw [e0] at k1;rw [e1] at k2;rw [e2] at k3;rw [e3] at k4;rw [e4] at k5;rw [e5] at k6;rw [e6] at k7;rw [e7] at k8;rw [e8] at k9;rw [e9] at k10;rw [e10] at k11;have HXW:Hid (Ext w X11):=hid (Ext.trans (Ext.trans (Ext.trans (Ext.trans (Ext.trans (Ext.trans (Ext.trans (Ext.trans (Ext.trans (Ext.trans (Ext.trans (x0) x1) x2) x3) x4) x5) x6) x7) x8) x9) x10) x11);have eW:X11.heap.size=w.heap.size + 1 + 1 + 1 + 1 + 1 + 1 + 1 + 1 + 1 + 1 + 1 + 1:=e11;clear x0 es0 e0 x1 es1 e1 x2 es2 e2 x3 es3 e3 x4 es4 e4 x5 es5 e5 x6 es6 e6 x7 es7 e7 x8 es8 e8 x9 es9 e9 x10 es10 e10 x11 es11 e11;obtain ⟨W,hWW⟩:∃ W,X11=W:=⟨_,rfl⟩;rw [hWW] at HXW eW ⊢ k0 k1 k2 k3 k4 k5 k6 k7 k8 k9 k10 k11;clear hWW;refine bodyPost_ret (Q1v Tryz.results90 rfl k0 Tryz.X6u Tryz.Q9o) rfl ?_;refine ⟨_,rfl,⟨_,_,rfl,⟨Q1k (l:=[5,7]) k1 rfl rfl (by omega),?_⟩⟩,HXW.out⟩
 refine X1x k11 rfl (by omega) rfl fun i hi=>?_
 have:i=0 ∨ i=1 ∨ i=2:=by simp [Q0k] at hi; omega
 rcases this with rfl | rfl | rfl
 . exact ⟨rfl,rfl,Q1k (l:=[0,0]) k2 rfl rfl (by omega),Q1k (l:=[20,40]) k3 rfl rfl (by omega),Q1k (l:=[10,10]) k4 rfl rfl (by omega),Y7g _⟩
 . exact ⟨rfl,rfl,Q1k (l:=[0,1]) k5 rfl rfl (by omega),Q1k (l:=[40,20]) k6 rfl rfl (by omega),Q1k (l:=[10,25]) k7 rfl rfl (by omega),Y7g _⟩
 . exact ⟨rfl,rfl,Q1k (l:=[0,1]) k8 rfl rfl (by omega),Q1k (l:=[20,20]) k9 rfl rfl (by omega),Q1k (l:=[10,10]) k10 rfl rfl (by omega),Y7g _⟩
theorem Q4y (w:World) (a b c:Bool) :
    Calls Tryz.prog 91 #[.bool a,.bool b,.bool c] w fun e w'=>∃ u,e=.returned u /\ Q0w w' u (X0i a b c) /\ Ext w w':=by
 go_enter Tryz.func91,Tryz.ntmps91;go_wp2_with fail;have k0:=Blk.made w 38 #[.slice (some ⟨w.heap.size + 1 + 1 + 1 + 1,0,none⟩) 3 3];have x0:=Ext.box w (.cells #[.slice (some ⟨w.heap.size + 1 + 1 + 1 + 1,0,none⟩) 3 3] 38);have es0:(w.alloc (.cells #[.slice (some ⟨w.heap.size + 1 + 1 + 1 + 1,0,none⟩) 3 3] 38)).heap.size=w.heap.size + 1:=by simp
 obtain ⟨X0,hX0⟩:∃ X,w.alloc (.cells #[.slice (some ⟨w.heap.size + 1 + 1 + 1 + 1,0,none⟩) 3 3] 38)=X:=⟨_,rfl⟩;rw [hX0] at k0 x0 es0 ⊢;clear hX0;have k1:=Blk.made X0 3 #[.int .i64 0];have x1:=Ext.box X0 (.cells #[.int .i64 0] 3);have es1:(X0.alloc (.cells #[.int .i64 0] 3)).heap.size=X0.heap.size + 1:=by simp
 obtain ⟨X1,hX1⟩:∃ X,X0.alloc (.cells #[.int .i64 0] 3)=X:=⟨_,rfl⟩;rw [hX1] at k1 x1 es1 ⊢;clear hX1;have k2:=Blk.made X1 3 #[.int .i64 0,.int .i64 0];have x2:=Ext.box X1 (.cells #[.int .i64 0,.int .i64 0] 3);have es2:(X1.alloc (.cells #[.int .i64 0,.int .i64 0] 3)).heap.size=X1.heap.size + 1:=by simp
 obtain ⟨X2,hX2⟩:∃ X,X1.alloc (.cells #[.int .i64 0,.int .i64 0] 3)=X:=⟨_,rfl⟩;rw [hX2] at k2 x2 es2 ⊢;clear hX2;have k3:=Blk.made X2 3 #[.int .i64 0,.int .i64 1];have x3:=Ext.box X2 (.cells #[.int .i64 0,.int .i64 1] 3);have es3:(X2.alloc (.cells #[.int .i64 0,.int .i64 1] 3)).heap.size=X2.heap.size + 1:=by simp
 obtain ⟨X3,hX3⟩:∃ X,X2.alloc (.cells #[.int .i64 0,.int .i64 1] 3)=X:=⟨_,rfl⟩;rw [hX3] at k3 x3 es3 ⊢;clear hX3;have k4:=Blk.made X3 167 #[.slice (some ⟨w.heap.size + 1,0,none⟩) 1 1,.bool a,.slice (some ⟨w.heap.size + 1 + 1,0,none⟩) 2 2,.bool b,.slice (some ⟨w.heap.size + 1 + 1 + 1,0,none⟩) 2 2,.bool c];have x4:=Ext.box X3 (.cells #[.slice (some ⟨w.heap.size + 1,0,none⟩) 1 1,.bool a,.slice (some ⟨w.heap.size + 1 + 1,0,none⟩) 2 2,.bool b,.slice (some ⟨w.heap.size + 1 + 1 + 1,0,none⟩) 2 2,.bool c] 167);have es4:(X3.alloc (.cells #[.slice (some ⟨w.heap.size + 1,0,none⟩) 1 1,.bool a,.slice (some ⟨w.heap.size + 1 + 1,0,none⟩) 2 2,.bool b,.slice (some ⟨w.heap.size + 1 + 1 + 1,0,none⟩) 2 2,.bool c] 167)).heap.size=X3.heap.size + 1:=by simp
 obtain ⟨X4,hX4⟩:∃ X,X3.alloc (.cells #[.slice (some ⟨w.heap.size + 1,0,none⟩) 1 1,.bool a,.slice (some ⟨w.heap.size + 1 + 1,0,none⟩) 2 2,.bool b,.slice (some ⟨w.heap.size + 1 + 1 + 1,0,none⟩) 2 2,.bool c] 167)=X:=⟨_,rfl⟩;rw [hX4] at k4 x4 es4 ⊢;clear hX4;replace k0:=(((k0.ext x1).ext x2).ext x3).ext x4;replace k1:=((k1.ext x2).ext x3).ext x4;replace k2:=(k2.ext x3).ext x4;replace k3:=k3.ext x4;have e0:X0.heap.size=w.heap.size + 1:=by omega
 have e1:X1.heap.size=w.heap.size + 1 + 1:=by omega
 have e2:X2.heap.size=w.heap.size + 1 + 1 + 1:=by omega
 have e3:X3.heap.size=w.heap.size + 1 + 1 + 1 + 1:=by omega
 have e4:X4.heap.size=w.heap.size + 1 + 1 + 1 + 1 + 1:=by omega
 rw [e0] at k1;rw [e1] at k2;rw [e2] at k3;rw [e3] at k4;have HXW:Hid (Ext w X4):=hid (Ext.trans (Ext.trans (Ext.trans (Ext.trans (x0) x1) x2) x3) x4);have eW:X4.heap.size=w.heap.size + 1 + 1 + 1 + 1 + 1:=e4;clear x0 es0 e0 x1 es1 e1 x2 es2 e2 x3 es3 e3 x4 es4 e4;obtain ⟨W,hWW⟩:∃ W,X4=W:=⟨_,rfl⟩;rw [hWW] at HXW eW ⊢ k0 k1 k2 k3 k4;clear hWW;refine bodyPost_ret (Q1v Tryz.results91 rfl k0 Tryz.J0k Tryz.Z8r) rfl ?_;refine ⟨_,rfl,⟨_,rfl,?_⟩,HXW.out⟩;refine X1x k4 rfl (by omega) rfl fun i hi=>?_
 have:i=0 ∨ i=1 ∨ i=2:=by simp [X0i] at hi; omega
 rcases this with rfl | rfl | rfl
 . exact ⟨Q1k (l:=[0]) k1 rfl rfl (by omega),rfl⟩
 . exact ⟨Q1k (l:=[0,0]) k2 rfl rfl (by omega),rfl⟩
 . exact ⟨Q1k (l:=[0,1]) k3 rfl rfl (by omega),rfl⟩
end Go.Proofs
