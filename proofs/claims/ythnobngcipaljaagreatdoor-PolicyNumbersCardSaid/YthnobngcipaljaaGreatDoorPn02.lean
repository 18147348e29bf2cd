/- DERIVED: THE SHELF's CONTRACTS AT THIS DUMP, IN PLAIN WORDS (tools/lay-plain.mjs out of 'TryzShelf.lean', which tools/lay-shelf.mjs wrote): THE SAME DECLARATIONS UNDER THE SAME NAMES: 'import', 'namespace', 'open', 'def', 'theorem' AND NOTHING ELSE: no command of the shelf's: FOR A HAND-IN. Each laying: the table of numbers ('.._ren') and one theorem, a field a fact of the dump's own or the kernel's comparison; each contract: ONE APPLICATION. A region whose operations are carried out in an order that Go leaves open: one look at each operation, with what its forerunners gave, serves every order. -/
import Derived.Ground.Names7Prog
import Derived.Ground.SlsfProg
import Derived.Shelf.Spec.TrailingZeros
import Derived.Shelf.SlSortCmp.Whole1
import Derived.Shelf.SlGeneric
import Derived.Shelf.Strings.Builder1
import Derived.Shelf.Strings.Builder2
import Derived.Shelf.Strings.OnBuilder
import Derived.Shelf.Small.Bits
import Derived.Shelf.Small.Wraps
import Derived.Shelf.Strings.BuilderF
import Derived.Shelf.Strings.BuilderK
import Derived.Shelf.Strings.Builder2Cap
import Derived.Shelf.Strconv.Itoa0
import Derived.Shelf.Strconv.Itoa1
import Derived.Shelf.LaysM
import Derived.Shelf.Strconv.Itoa2
import Derived.Shelf.Strconv.Itoa3
import Derived.Shelf.Strings.Search1
import Derived.Shelf.Strings.Search2
import Derived.Shelf.Strings.Search3
import Derived.Shelf.Strings.Cut
import Derived.Shelf.Strings.Count
import Derived.Shelf.Strings.Shaped
import Derived.Shelf.Strings.Split
import Derived.Shelf.Unicode.DecodeSlow
import Derived.Shelf.Strings.BuilderCap
import Derived.Shelf.Slices.Turned
import Derived.Ground.Names2Prog
import Derived.Shelf.Slices.Clone
import Derived.Shelf.Slices.SearchI
import Derived.Ground.SlgnProg
import Derived.Shelf.SlicesE.Clone
import Derived.Test.YthnobngcipaljaaGreatDoorProg
import Derived.Orders
import Derived.Below
set_option maxRecDepth 1000000
set_option maxHeartbeats 64000000
set_option linter.unusedVariables false
set_option linter.unusedSimpArgs false
set_option linter.constructorNameAsVariable false
namespace Go.Proofs
open Go.Shelf
def Tryz.lays169_ren:Go.Shelf.Ren:=⟨fun | 169=>150 | n=>n,fun | 70=>211 | 9=>9 | 0=>0 | 72=>214 | 37=>212 | 127=>253 | 3=>3 | 5=>5 | n=>n,fun | n=>n⟩
theorem Tryz.lays169:Go.Proofs.Lays.n169 Tryz.prog Tryz.lays169_ren:={
 mixed:=by kernel_rfl
 f169:=Tryz.func150.trans (congrArg some (by kernel_rfl))
 t0:=Tryz.underlying0
 a0:=Tryz.isAgg0
 z0:=Tryz.sizeOf0
 v0:=Tryz.zeroValue0
 t3:=Tryz.underlying3
 a3:=Tryz.isAgg3
 z3:=Tryz.sizeOf3
 v3:=Tryz.zeroValue3
 t9:=Tryz.underlying9
 a9:=Tryz.isAgg9
 z9:=Tryz.sizeOf9
 v9:=Tryz.zeroValue9
 t37:=Tryz.underlying212
 a37:=Tryz.isAgg212
 z37:=Tryz.sizeOf212
 v37:=Tryz.zeroValue212
 t70:=Tryz.underlying211
 a70:=Tryz.isAgg211
 z70:=Tryz.sizeOf211
 v70:=Tryz.zeroValue211
 t72:=Tryz.underlying214
 a72:=Tryz.isAgg214
 z72:=Tryz.sizeOf214
 v72:=Tryz.zeroValue214
 t127:=Tryz.underlying253
 a127:=Tryz.isAgg253
 z127:=Tryz.sizeOf253
 v127:=Tryz.zeroValue253 }
theorem Tryz.Builder_Extra_169:Builder.Extra Tryz.prog Tryz.lays169_ren:={
 sizeBuilder:=by kernel_rfl
 liesBuilder:=by kernel_rfl
 t5:=Tryz.underlying5
 a5:=Tryz.isAgg5
 z5:=Tryz.sizeOf5
 v5:=Tryz.zeroValue5
 infoByte:=by kernel_rfl
 cellsByte:=by kernel_rfl
 sizeByte:=by kernel_rfl
 neB5:=by decide }
open Go.RowKit in
open Go.RowKit in
open Go.RowKit in
theorem Tryz.Builder_String_any (B b:Nat) (l:List UInt8) (w:World) (h:Lib.IsBuilder 214 5 B b (Lib.byteCells l) w) (hBw:B <= w.heap.size) :
    Calls Tryz.prog 150 #[.pointer (some ⟨b,0,none⟩)] w fun e w'=>e=.returned (.string ⟨l.toArray⟩) /\ Below B w w':=Any.Builder_String_any Tryz.lays169 Tryz.Builder_Extra_169 B b l w h hBw
open Go.RowKit in
open Go.RowKit in
def Tryz.lays156_ren:Go.Shelf.Ren:=⟨fun | 156=>149 | 165=>180 | 166=>148 | 169=>150 | 240=>179 | 241=>193 | 276=>192 | 277=>217 | n=>n,fun | 31=>157 | 9=>9 | 3=>3 | 4=>4 | 0=>0 | 20=>20 | 72=>214 | 76=>220 | 70=>211 | 37=>212 | 75=>219 | 127=>253 | 164=>266 | 5=>5 | 80=>223 | n=>n,fun | n=>n⟩
theorem Tryz.lays156:Go.Proofs.Lays.n156 Tryz.prog Tryz.lays156_ren:={
 mixed:=by kernel_rfl
 f156:=Tryz.func149.trans (congrArg some (by kernel_rfl))
 f165:=Tryz.func180.trans (congrArg some (by kernel_rfl))
 f166:=Tryz.func148.trans (congrArg some (by kernel_rfl))
 f169:=Tryz.func150.trans (congrArg some (by kernel_rfl))
 f240:=Tryz.func179.trans (congrArg some (by kernel_rfl))
 f241:=Tryz.func193.trans (congrArg some (by kernel_rfl))
 f276:=Tryz.func192.trans (congrArg some (by kernel_rfl))
 f277:=Tryz.func217.trans (congrArg some (by kernel_rfl))
 t0:=Tryz.underlying0
 a0:=Tryz.isAgg0
 z0:=Tryz.sizeOf0
 v0:=Tryz.zeroValue0
 t3:=Tryz.underlying3
 a3:=Tryz.isAgg3
 z3:=Tryz.sizeOf3
 v3:=Tryz.zeroValue3
 t4:=Tryz.underlying4
 a4:=Tryz.isAgg4
 z4:=Tryz.sizeOf4
 v4:=Tryz.zeroValue4
 t9:=Tryz.underlying9
 a9:=Tryz.isAgg9
 z9:=Tryz.sizeOf9
 v9:=Tryz.zeroValue9
 t20:=Tryz.underlying20
 a20:=Tryz.isAgg20
 z20:=Tryz.sizeOf20
 v20:=Tryz.zeroValue20
 t31:=Tryz.underlying157
 a31:=Tryz.isAgg157
 z31:=Tryz.sizeOf157
 v31:=Tryz.zeroValue157
 t37:=Tryz.underlying212
 a37:=Tryz.isAgg212
 z37:=Tryz.sizeOf212
 v37:=Tryz.zeroValue212
 t70:=Tryz.underlying211
 a70:=Tryz.isAgg211
 z70:=Tryz.sizeOf211
 v70:=Tryz.zeroValue211
 t72:=Tryz.underlying214
 a72:=Tryz.isAgg214
 z72:=Tryz.sizeOf214
 v72:=Tryz.zeroValue214
 t75:=Tryz.underlying219
 a75:=Tryz.isAgg219
 z75:=Tryz.sizeOf219
 v75:=Tryz.zeroValue219
 t76:=Tryz.underlying220
 a76:=Tryz.isAgg220
 z76:=Tryz.sizeOf220
 v76:=Tryz.zeroValue220
 t127:=Tryz.underlying253
 a127:=Tryz.isAgg253
 z127:=Tryz.sizeOf253
 v127:=Tryz.zeroValue253
 t164:=Tryz.underlying266
 a164:=Tryz.isAgg266
 z164:=Tryz.sizeOf266
 v164:=Tryz.zeroValue266 }
theorem Tryz.Builder_Extra_156:Builder.Extra Tryz.prog Tryz.lays156_ren:={
 sizeBuilder:=by kernel_rfl
 liesBuilder:=by kernel_rfl
 t5:=Tryz.underlying5
 a5:=Tryz.isAgg5
 z5:=Tryz.sizeOf5
 v5:=Tryz.zeroValue5
 infoByte:=by kernel_rfl
 cellsByte:=by kernel_rfl
 sizeByte:=by kernel_rfl
 neB5:=by decide }
open Go.RowKit in
open Go.RowKit in
theorem Tryz.strings_Join (bk o c:Nat) (xs:List ByteArray) (sep:ByteArray) (w:World) (hcells:∀ (j:Nat) x,xs[j]?=some x -> w.cell? ⟨bk,o + j,none⟩=some (.string x)) (hbk:bk < w.heap.size) (hN:xs.length <= 140737488355328) (hcap:xs.length <= c) (hlen:(Lib.join (xs.map (·.data.toList)) sep.data.toList).length <= 140737488355328) :
    Calls Tryz.prog 149 #[.slice (some ⟨bk,o,none⟩) xs.length c,.string sep] w fun e w'=>e=.returned (.string ⟨(Lib.join (xs.map (·.data.toList)) sep.data.toList).toArray⟩) /\ Below w.heap.size w w':=Any.strings_Join Tryz.lays156 Tryz.Builder_Extra_156 bk o c xs sep w hcells hbk hN hcap hlen
open Go.RowKit in
open Go.RowKit in
open Go.RowKit in
open Go.RowKit in
open Go.RowKit in
open Go.RowKit in
open Go.RowKit in
open Go.RowKit in
open Go.RowKit in
open Go.RowKit in
open Go.Lib in
open Go.Lib in
open Go.Lib in
open Go.Lib in
open Go.RowKit Go.Sort Go.Lib in
open Go.RowKit Go.Sort Go.Lib in
open Go.RowKit Go.Sort Go.Lib in
open Go.RowKit Go.Sort Go.Lib in
open Go.RowKit Go.Sort Go.Lib in
open Go.RowKit Go.Sort Go.Lib in
def Tryz.Z0u:Go.Shelf.Ren:=⟨fun | 171=>147 | 243=>178 | 246=>191 | 283=>213 | 284=>214 | 285=>215 | 286=>216 | 129=>211 | 317=>238 | 318=>239 | 319=>240 | 320=>241 | 337=>249 | 338=>250 | n=>n,fun | 3=>3 | 9=>9 | 2=>2 | 4=>4 | 171=>288 | 0=>0 | 53=>287 | 37=>212 | 5=>5 | 173=>290 | 212=>311 | 51=>285 | 20=>20 | 213=>312 | 46=>262 | 232=>321 | 233=>322 | n=>n,fun | 17=>2 | 18=>3 | 19=>4 | n=>n⟩
theorem Tryz.lays171:Go.Proofs.Lays.n171 Tryz.prog Tryz.Z0u:={
 mixed:=by kernel_rfl
 f129:=Tryz.func211.trans (congrArg some (by kernel_rfl))
 f171:=Tryz.func147.trans (congrArg some (by kernel_rfl))
 f243:=Tryz.func178.trans (congrArg some (by kernel_rfl))
 f246:=Tryz.func191.trans (congrArg some (by kernel_rfl))
 f283:=Tryz.func213.trans (congrArg some (by kernel_rfl))
 f284:=Tryz.func214.trans (congrArg some (by kernel_rfl))
 f285:=Tryz.func215.trans (congrArg some (by kernel_rfl))
 f286:=Tryz.func216.trans (congrArg some (by kernel_rfl))
 f317:=Tryz.func238.trans (congrArg some (by kernel_rfl))
 f318:=Tryz.func239.trans (congrArg some (by kernel_rfl))
 f319:=Tryz.func240.trans (congrArg some (by kernel_rfl))
 f320:=Tryz.func241.trans (congrArg some (by kernel_rfl))
 f337:=Tryz.func249.trans (congrArg some (by kernel_rfl))
 f338:=Tryz.func250.trans (congrArg some (by kernel_rfl))
 t0:=Tryz.underlying0
 a0:=Tryz.isAgg0
 z0:=Tryz.sizeOf0
 v0:=Tryz.zeroValue0
 t2:=Tryz.underlying2
 a2:=Tryz.isAgg2
 z2:=Tryz.sizeOf2
 v2:=Tryz.zeroValue2
 t3:=Tryz.underlying3
 a3:=Tryz.isAgg3
 z3:=Tryz.sizeOf3
 v3:=Tryz.zeroValue3
 t4:=Tryz.underlying4
 a4:=Tryz.isAgg4
 z4:=Tryz.sizeOf4
 v4:=Tryz.zeroValue4
 t5:=Tryz.underlying5
 a5:=Tryz.isAgg5
 z5:=Tryz.sizeOf5
 v5:=Tryz.zeroValue5
 t9:=Tryz.underlying9
 a9:=Tryz.isAgg9
 z9:=Tryz.sizeOf9
 v9:=Tryz.zeroValue9
 t20:=Tryz.underlying20
 a20:=Tryz.isAgg20
 z20:=Tryz.sizeOf20
 v20:=Tryz.zeroValue20
 t37:=Tryz.underlying212
 a37:=Tryz.isAgg212
 z37:=Tryz.sizeOf212
 v37:=Tryz.zeroValue212
 t46:=Tryz.underlying262
 a46:=Tryz.isAgg262
 z46:=Tryz.sizeOf262
 v46:=Tryz.zeroValue262
 t51:=Tryz.underlying285
 a51:=Tryz.isAgg285
 z51:=Tryz.sizeOf285
 v51:=Tryz.zeroValue285
 t53:=Tryz.underlying287
 a53:=Tryz.isAgg287
 z53:=Tryz.sizeOf287
 v53:=Tryz.zeroValue287
 t171:=Tryz.underlying288
 a171:=Tryz.isAgg288
 z171:=Tryz.sizeOf288
 v171:=Tryz.zeroValue288
 t173:=Tryz.underlying290
 a173:=Tryz.isAgg290
 z173:=Tryz.sizeOf290
 v173:=Tryz.zeroValue290
 t212:=Tryz.underlying311
 a212:=Tryz.isAgg311
 z212:=Tryz.sizeOf311
 v212:=Tryz.zeroValue311
 t213:=Tryz.underlying312
 a213:=Tryz.isAgg312
 z213:=Tryz.sizeOf312
 t232:=Tryz.underlying321
 a232:=Tryz.isAgg321
 z232:=Tryz.sizeOf321
 v232:=Tryz.zeroValue321
 t233:=Tryz.underlying322
 a233:=Tryz.isAgg322
 z233:=Tryz.sizeOf322
 v233:=Tryz.zeroValue322
 g17:=by kernel_rfl
 g18:=by kernel_rfl
 g19:=by kernel_rfl }
open Go.RowKit Go.Sort Go.Lib in
theorem Tryz.strconv_Itoa_small (i:Nat) (hi:i < 100) (w:World) :
    Calls Tryz.prog 147 #[.int .i64 i] w fun e w'=>e=.returned (.string ⟨(Lib.decDigits i).toArray⟩) /\ w'=w:=Any.strconv_Itoa_small Tryz.lays171 i hi w
open Go.RowKit Go.Lib in
open Go.RowKit Go.Lib in
open Go.RowKit Go.Lib in
open Go.RowKit Go.Lib in
open Go.RowKit Go.Lib in
open Go.RowKit Go.Lib in
open Go.RowKit Go.Lib in
open Go.RowKit Go.Lib in
open Go.RowKit Go.Lib in
open Go.RowKit Go.Lib in
open Go.RowKit Go.Lib in
open Go.RowKit Go.Lib in
open Go.RowKit Go.Lib in
open Go.RowKit Go.Lib in
open Go.RowKit Go.Lib in
open Go.RowKit Go.Lib in
open Go.RowKit Go.Lib in
open Go.RowKit Go.Lib in
open Go.RowKit Go.Lib in
open Go.RowKit Go.Lib in
open Go.RowKit Go.Lib in
open Go.Lib in
open Go.Lib in
open Go.Lib in
open Go.Lib in
open Go.Lib in
open Go.Lib in
open Go.Lib in
open Go.Lib in
open Go.Lib in
open Go.RowKit Go.Lib in
open Go.RowKit Go.Lib in
open Go.RowKit Go.Lib in
open Go.RowKit Go.Lib in
open Go.RowKit Go.Lib in
open Go.RowKit Go.Lib in
def Tryz.Z1u:Go.Shelf.Ren:=⟨fun | 6=>159 | 15=>187 | 14=>186 | 28=>210 | 29=>211 | 20=>202 | 21=>203 | 22=>204 | 23=>205 | 24=>206 | 25=>207 | 26=>208 | 27=>209 | 46=>233 | 47=>234 | 48=>235 | 49=>236 | 50=>237 | 57=>248 | n=>n,fun | 22=>168 | 24=>166 | 25=>237 | 3=>3 | 39=>262 | 0=>0 | 53=>285 | 55=>287 | 4=>4 | 46=>278 | 45=>277 | 50=>282 | 5=>5 | 9=>9 | 66=>304 | 70=>308 | 76=>319 | 77=>89 | n=>n,fun | n=>n⟩
theorem Tryz.sortSet:Go.Proofs.SlLaysF.n6 Tryz.prog Tryz.Z1u:={
 mixed:=by kernel_rfl
 f6:=⟨Tryz.f159.name,by decide,Tryz.func159.trans (congrArg some (by kernel_rfl))⟩
 f14:=⟨Tryz.f186.name,by decide,Tryz.func186.trans (congrArg some (by kernel_rfl))⟩
 f15:=Tryz.func187.trans (congrArg some (by kernel_rfl))
 f20:=⟨Tryz.f202.name,by decide,Tryz.func202.trans (congrArg some (by kernel_rfl))⟩
 f21:=⟨Tryz.f203.name,by decide,Tryz.func203.trans (congrArg some (by kernel_rfl))⟩
 f22:=⟨Tryz.f204.name,by decide,Tryz.func204.trans (congrArg some (by kernel_rfl))⟩
 f23:=⟨Tryz.f205.name,by decide,Tryz.func205.trans (congrArg some (by kernel_rfl))⟩
 f24:=⟨Tryz.f206.name,by decide,Tryz.func206.trans (congrArg some (by kernel_rfl))⟩
 f25:=⟨Tryz.f207.name,by decide,Tryz.func207.trans (congrArg some (by kernel_rfl))⟩
 f26:=⟨Tryz.f208.name,by decide,Tryz.func208.trans (congrArg some (by kernel_rfl))⟩
 f27:=⟨Tryz.f209.name,by decide,Tryz.func209.trans (congrArg some (by kernel_rfl))⟩
 f28:=Tryz.func210.trans (congrArg some (by kernel_rfl))
 f29:=Tryz.func211.trans (congrArg some (by kernel_rfl))
 f46:=⟨Tryz.f233.name,by decide,Tryz.func233.trans (congrArg some (by kernel_rfl))⟩
 f47:=Tryz.func234.trans (congrArg some (by kernel_rfl))
 f48:=Tryz.func235.trans (congrArg some (by kernel_rfl))
 f49:=⟨Tryz.f236.name,by decide,Tryz.func236.trans (congrArg some (by kernel_rfl))⟩
 f50:=⟨Tryz.f237.name,by decide,Tryz.func237.trans (congrArg some (by kernel_rfl))⟩
 f57:=⟨Tryz.f248.name,by decide,Tryz.func248.trans (congrArg some (by kernel_rfl))⟩
 t0:=Tryz.underlying0
 a0:=Tryz.isAgg0
 z0:=Tryz.sizeOf0
 v0:=Tryz.zeroValue0
 t3:=Tryz.underlying3
 a3:=Tryz.isAgg3
 z3:=Tryz.sizeOf3
 v3:=Tryz.zeroValue3
 t4:=Tryz.underlying4
 a4:=Tryz.isAgg4
 z4:=Tryz.sizeOf4
 v4:=Tryz.zeroValue4
 t5:=Tryz.underlying5
 a5:=Tryz.isAgg5
 z5:=Tryz.sizeOf5
 v5:=Tryz.zeroValue5
 t9:=Tryz.underlying9
 a9:=Tryz.isAgg9
 z9:=Tryz.sizeOf9
 v9:=Tryz.zeroValue9
 t22:=Tryz.underlying168
 a22:=Tryz.isAgg168
 z22:=Tryz.sizeOf168
 v22:=Tryz.zeroValue168
 a24:=Tryz.isAgg166
 z24:=Tryz.sizeOf166
 t25:=Tryz.underlying237
 a25:=Tryz.isAgg237
 z25:=Tryz.sizeOf237
 v25:=Tryz.zeroValue237
 t39:=Tryz.underlying262
 a39:=Tryz.isAgg262
 z39:=Tryz.sizeOf262
 v39:=Tryz.zeroValue262
 t45:=Tryz.underlying277
 a45:=Tryz.isAgg277
 z45:=Tryz.sizeOf277
 v45:=Tryz.zeroValue277
 t46:=Tryz.underlying278
 a46:=Tryz.isAgg278
 z46:=Tryz.sizeOf278
 v46:=Tryz.zeroValue278
 t50:=Tryz.underlying282
 a50:=Tryz.isAgg282
 z50:=Tryz.sizeOf282
 v50:=Tryz.zeroValue282
 t53:=Tryz.underlying285
 a53:=Tryz.isAgg285
 z53:=Tryz.sizeOf285
 v53:=Tryz.zeroValue285
 t55:=Tryz.underlying287
 a55:=Tryz.isAgg287
 z55:=Tryz.sizeOf287
 v55:=Tryz.zeroValue287
 t66:=Tryz.underlying304
 a66:=Tryz.isAgg304
 z66:=Tryz.sizeOf304
 v66:=Tryz.zeroValue304
 t70:=Tryz.underlying308
 a70:=Tryz.isAgg308
 z70:=Tryz.sizeOf308
 v70:=Tryz.zeroValue308
 t76:=Tryz.underlying319
 a76:=Tryz.isAgg319
 z76:=Tryz.sizeOf319
 v76:=Tryz.zeroValue319
 t77:=Tryz.underlying89
 a77:=Tryz.isAgg89
 z77:=Tryz.sizeOf89
 v77:=Tryz.zeroValue89 }
end Go.Proofs
namespace Go.Flow
open Go.RowKit
def upd (v:Nat -> Value) (j:Nat) (u:Value):Nat -> Value:=fun k=>if k=j then u else v k
def mask (pre:Nat -> List Nat) (k:Nat) (v:Nat -> Value):Nat -> Value:=fun i=>if (i == k || (pre k).contains i)=true then v i else undef
def act (X:Nat -> Bool) (v:Nat -> Value):List Oper -> Nat -> Act -> Act
 | [],_,a=>a
 | o :: l,i,a=>act X v l (i + 1) (if X i then a.put o.dst (v i) else a)
theorem Q8c (a:Act) (d:Option Tmp) (u:Value):(a.put d u).tmps.size=a.tmps.size:=by cases d <;> simp [Act.put]
theorem put_defers (a:Act) (d:Option Tmp) (u:Value):(a.put d u).defers=a.defers:=by cases d <;> rfl
theorem X7p (X:Nat -> Bool) (v:Nat -> Value):∀ (l:List Oper) (i:Nat) (a:Act),(act X v l i a).tmps.size=a.tmps.size
 | [],_,_=>rfl
 | o :: l,i,a=>by rw [act,X7p X v l]; split <;> simp [Q8c]
theorem Q2s (X:Nat -> Bool) (v:Nat -> Value):∀ (l:List Oper) (i:Nat) (a:Act),(act X v l i a).defers=a.defers
 | [],_,_=>rfl
 | o :: l,i,a=>by rw [act,Q2s X v l]; split <;> simp [put_defers]
theorem X4u (a:Act) (d:Option Tmp) (u:Value) (t:Tmp) (h:d ≠ some t):(a.put d u).tmps[t]?=a.tmps[t]?:=by
 cases d with
 | none=>rfl
 | some d=>simp only [Act.put]; exact Array.getElem?_setIfInBounds_ne (fun e=>h (by rw [e]))
theorem X0k (a:Act) (u:Value) (t:Tmp) (h:t < a.tmps.size):(a.put (some t) u).tmps[t]?=some u:=by
 simp [Act.put,h]
theorem Q6d (X Y:Nat -> Bool) (v v':Nat -> Value) (t:Tmp):∀ (l:List Oper) (i:Nat) (a a':Act),a.tmps.size=a'.tmps.size -> a.tmps[t]?=a'.tmps[t]? ->
    (∀ k o,l[k]?=some o -> o.dst=some t -> X (i + k)=Y (i + k) /\ (X (i + k)=true -> v (i + k)=v' (i + k))) ->
    (act X v l i a).tmps[t]?=(act Y v' l i a').tmps[t]?
 | [],_,_,_,_,h,_=>h
 | o :: l,i,a,a',hs,h,hk=>by
   rw [act,act];refine Q6d X Y v v' t l (i + 1) _ _ (by split <;> split <;> simp [Q8c,hs]) ?_ (fun k o' ho hd=>by have:=hk (k + 1) o' (by simpa using ho) hd; rwa [show i + (k + 1)=i + 1 + k from by omega] at this)
   by_cases hd:o.dst=some t
   . obtain ⟨h1,h2⟩:=hk 0 o rfl hd
     simp only [Nat.add_zero] at h1 h2;rw [<- h1]
     split
     . rename_i hx
       rw [hd,h2 hx]
       rcases Nat.lt_or_ge t a.tmps.size with hl | hl
       . rw [X0k _ _ _ hl,X0k _ _ _ (hs ▸ hl)]
       . rw [Array.getElem?_eq_none (by rw [Q8c]; exact hl),Array.getElem?_eq_none (by rw [Q8c,<- hs]; exact hl)]
     . exact h
   . have e1:(if X i=true then a.put o.dst (v i) else a).tmps[t]?=a.tmps[t]?:=by split <;> first | exact X4u _ _ _ _ hd | rfl
     have e2:(if Y i=true then a'.put o.dst (v' i) else a').tmps[t]?=a'.tmps[t]?:=by split <;> first | exact X4u _ _ _ _ hd | rfl
     rw [e1,e2,h]
theorem Z2u (X:Nat -> Bool) (v:Nat -> Value) (t:Tmp):∀ (l:List Oper) (i:Nat) (a:Act) (j:Nat) (o:Oper),t < a.tmps.size -> l[j]?=some o -> o.dst=some t -> X (i + j)=true ->
    (∀ k o',j < k -> l[k]?=some o' -> o'.dst=some t -> X (i + k)=false) -> (act X v l i a).tmps[t]?=some (v (i + j))
 | [],_,_,_,_,_,h,_,_,_=>by simp at h
 | o :: l,i,a,0,o',hs,h,hd,hX,hk=>by
   simp only [List.getElem?_cons_zero,Option.some.injEq] at h;subst h;simp only [Nat.add_zero] at hX ⊢;rw [act,if_pos hX,Q6d X (fun _=>false) v v t l (i + 1) _ (a.put o.dst (v i)) rfl rfl (fun k o' ho hd'=>by
    have:=hk (k + 1) o' (by omega) (by simpa using ho) hd'
    rw [show i + (k + 1)=i + 1 + k from by omega] at this
    exact ⟨this,fun h=>by simp [this] at h⟩)]
   have:∀ (l:List Oper) (i:Nat) (a:Act),act (fun _=>false) v l i a=a:=by
    intro l; induction l with
    | nil=>intro i a; rfl
    | cons o l ih=>intro i a; simp [act,ih]
   rw [this,hd]; exact X0k _ _ _ hs
 | o :: l,i,a,j + 1,o',hs,h,hd,hX,hk=>by
   rw [act];have:=Z2u X v t l (i + 1) (if X i then a.put o.dst (v i) else a) j o' (by split <;> simp [Q8c,hs]) (by simpa using h) hd (by rwa [show i + 1 + j=i + (j + 1) from by omega])
    (fun k o'' hlt ho hd'=>by have:=hk (k + 1) o'' (by omega) (by simpa using ho) hd'; rwa [show i + (k + 1)=i + 1 + k from by omega] at this)
   rw [this]; congr 2; omega
theorem X1q {a b:Act} (hd:a.defers=b.defers) (h:∀ t:Nat,a.tmps[t]?=b.tmps[t]?):a=b:=by
 obtain ⟨ta,da⟩:=a; obtain ⟨tb,db⟩:=b;simp only at hd h;subst hd
 congr
 exact Array.ext_getElem? h
def okB (ops:Array Oper) (pre:Nat -> List Nat):Bool :=
 Region.noSelect ops &&
 (List.range ops.size).all fun j=>match ops[j]? with
  | none=>true
  | some oj =>
    (oj.after.toList.all fun e=>!Region.binds .any e || decide (e.on < j)) &&
    ((pre j).all fun i=>oj.after.toList.any fun e=>Region.binds .any e && (e.on == i || (pre e.on).contains i)) &&
    (List.range j).all fun i=>match ops[i]? with
     | none=>true
     | some oi=>oi.apart ops oj || (pre j).contains i
structure Ok (ops:Array Oper) (pr:Nat -> List Nat):Prop where
 sel:∀ (j:Nat) (o:Oper) (cs:Array SelectCase) (b:Bool),ops[j]?=some o -> o.op ≠ .select cs b
 edge:∀ j o,ops[j]?=some o -> ∀ e ∈ o.after,Region.binds .any e=true -> e.on < j
 pre:∀ j o,ops[j]?=some o -> ∀ i ∈ pr j,∃ e ∈ o.after,Region.binds .any e=true /\ (e.on=i ∨ i ∈ pr e.on)
 apart:∀ i j oi oj,i < j -> ops[i]?=some oi -> ops[j]?=some oj -> oi.apart ops oj=true ∨ i ∈ pr j
theorem J3e {ops:Array Oper} {pre:Nat -> List Nat} (h:okB ops pre=true):Ok ops pre:=by
 simp only [okB,Bool.and_eq_true,List.all_eq_true,List.mem_range] at h;obtain ⟨hs,h⟩:=h;have hj:∀ j o,ops[j]?=some o -> j < ops.size:=fun j o ho=>(Array.getElem?_eq_some_iff.1 ho).1;refine ⟨Region.noSelect_spec hs,fun j o ho e he hb=>?_,fun j o ho i hi=>?_,fun i j oi oj hij hoi hoj=>?_⟩
 . have:=h j (hj j o ho)
   simp only [ho,Bool.and_eq_true,List.all_eq_true] at this;have:=this.1.1 e (Array.mem_toList_iff.2 he)
   simpa [hb] using this
 . have:=h j (hj j o ho)
   simp only [ho,Bool.and_eq_true,List.all_eq_true] at this;have:=this.1.2 i hi;simp only [List.any_eq_true,Bool.and_eq_true,Bool.or_eq_true,beq_iff_eq,List.contains_iff_mem] at this;obtain ⟨e,he,hb,hc⟩:=this;exact ⟨e,Array.mem_toList_iff.1 he,hb,hc⟩
 . have:=h j (hj j oj hoj)
   simp only [hoj,Bool.and_eq_true,List.all_eq_true,List.mem_range] at this;have:=this.2 i hij;simp only [hoi,Bool.or_eq_true,List.contains_iff_mem] at this;exact this
section
variable {P:Program} {ops:Array Oper} {pre:Nat -> List Nat}
theorem eval_congr {a b:Act} (o:Oper) (h:∀ t ∈ o.looksAt ops,a.tmps[t]?=b.tmps[t]?):∀ x ∈ o.op.operands,a.eval x=b.eval x:=fun x hx=>by
 cases x with
 | tmp t =>
   have:=h t (List.mem_append_left _ (List.mem_filterMap.2 ⟨.tmp t,by simpa using hx,rfl⟩))
   simp [Act.eval,this]
 | _=>rfl
theorem Q9k {a b:Act} (o:Oper) (h:∀ t ∈ o.looksAt ops,a.tmps[t]?=b.tmps[t]?):Region.wanted o (yielded ops a.tmps)=Region.wanted o (yielded ops b.tmps):=by
 unfold Region.wanted;cases hg:o.guard with
 | none=>rfl
 | some gw =>
   obtain ⟨g,want⟩:=gw;have hy:yielded ops a.tmps g=yielded ops b.tmps g:=by
    unfold yielded;cases ht:(ops[g]?).bind (·.dst) with
    | none=>rfl
    | some t =>
      have:=h t (by simp [Oper.looksAt,hg,ht])
      simp [this]
   simp only [hy]
def gives (P:Program) (G:Value -> World -> Prop):Result Next -> Prop
 | .ok (.value v) w'=>G v w'
 | .ok .skip w'=>G undef w'
 | .ok (.enter f args) w'=>Calls P f args w' fun e w''=>∃ u,e=.returned u /\ G u w''
 | .ok (.row row args) w'=>Rows P row args w' fun v w''=>G v w''
 | _=>False
theorem Q4y {G G':Value -> World -> Prop} (h:∀ v w,G v w -> G' v w) {r:Result Next} (hr:gives P G r):gives P G' r:=by
 cases r with
 | ok n w =>
   cases n <;> simp only [gives] at hr ⊢
   case value=>exact h _ _ hr
   case skip=>exact h _ _ hr
   case enter=>exact hr.mono fun e w ⟨u,he,hu⟩=>⟨u,he,h _ _ hu⟩
   case row=>exact hr.mono fun v w hu=>h _ _ hu
 | halt x w=>exact hr
theorem Q2m {o:Oper} {a:Act} {K:Act -> World -> Prop} {Q:Exit -> Act -> World -> Prop} {r:Result Next} (h:gives P (fun v w=>K (a.put o.dst v) w) r):o.upon P a K Q r:=by
 cases r with
 | ok n w =>
   cases n <;> simp only [gives,Oper.upon] at h ⊢
   case value=>exact h
   case skip=>exact h
   case enter=>exact h.mono fun e w ⟨u,he,hu⟩=>by subst he; exact hu
   case row=>exact h
 | halt x w=>exact h.elim
inductive Kind where
 | plain
 | world
 | last
abbrev Kind.p:=Kind.plain
abbrev Kind.w:=Kind.world
def vc (P:Program) (ops:Array Oper) (pre:Nat -> List Nat) (Rel:World -> World -> Prop) (D:Nat -> (Nat -> Value) -> World -> Prop) (T E:(Nat -> Value) -> World -> World -> Prop) (k:Kind) (o:Oper) (j:Nat) (b:Act) (v:Nat -> Value) (w1:World):Prop :=
 match k with
 | .plain=>(Region.wanted o (yielded ops b.tmps)=true /\ ∃ u,(∀ w,(execOp b.eval o).run P w=.ok (.value u) w) /\ D j (mask pre j (upd v j u)) w1) ∨ (Region.wanted o (yielded ops b.tmps)=false /\ D j (mask pre j (upd v j undef)) w1)
 | .world=>(Region.wanted o (yielded ops b.tmps)=true /\ gives P (fun u w'=>Rel w1 w' /\ D j (mask pre j (upd v j u)) w') ((execOp b.eval o).run P w1)) ∨ (Region.wanted o (yielded ops b.tmps)=false /\ D j (mask pre j (upd v j undef)) w1)
 | .last=>∀ w,T v w1 w -> (Region.wanted o (yielded ops b.tmps)=true /\ gives P (fun u w'=>E (mask pre j (upd v j u)) w1 w') ((execOp b.eval o).run P w)) ∨ (Region.wanted o (yielded ops b.tmps)=false /\ E (mask pre j (upd v j undef)) w1 w)
def Tail (pre:Nat -> List Nat) (tail:List Nat) (E:Nat -> (Nat -> Value) -> World -> World -> Prop):Nat -> (Nat -> Value) -> World -> World -> Prop
 | 0,_,w1,w=>w=w1
 | c + 1,v,w1,w=>E c (mask pre (tail.getD c 0) v) w1 w
def Made (P:Program) (o:Oper):Prop:=o.guard=none /\ ∀ (e:Operand -> Value) (w:World),∃ c,(execOp e o).run P w=.ok (.value (.pointer (some ⟨w.heap.size,0,none⟩))) (w.alloc c)
def J6m (news:List Nat) (v:Nat -> Value):Prop:=∀ i ∈ news,∀ k ∈ news,i ≠ k -> v i ≠ v k
structure Inv (ops:Array Oper) (pre:Nat -> List Nat) (Rel:World -> World -> Prop) (D:Nat -> (Nat -> Value) -> World -> Prop) (E:Nat -> (Nat -> Value) -> World -> World -> Prop) (tail:List Nat) (news:List Nat) (a0:Act) (w0:World) (X:Nat -> Bool) (v:Nat -> Value) (w1:World) (c:Nat) (a:Act) (w:World):Prop where
 act:a=act X v ops.toList 0 a0
 rel:Rel w0 w1
 facts:∀ k,X k=true -> k ∉ tail -> D k (mask pre k v) w1
 count:c <= tail.length
 before:∀ i (h:i < tail.length),i < c -> X tail[i]=true
 after:∀ i (h:i < tail.length),c <= i -> X tail[i]=false
 last:Tail pre tail E c v w1 w
 newIn:∀ i ∈ news,X i=true -> ∃ g,v i=.pointer (some ⟨g,0,none⟩) /\ g < w1.heap.size
 newNe:∀ i ∈ news,∀ k ∈ news,i ≠ k -> X i=true -> X k=true -> v i ≠ v k
theorem X0q {j k:Nat} {v:Nat -> Value} {u:Value} (h1:j ≠ k) (h2:j ∉ pre k):mask pre k (upd v j u)=mask pre k v:=by
 funext i
 unfold mask upd
 split
 . rename_i h
   rw [if_neg];rintro rfl;simp only [Bool.or_eq_true,beq_iff_eq,List.contains_iff_mem] at h
   rcases h with h | h
   . exact h1 h
   . exact h2 h
 . rfl
theorem Y4u {l:List Oper} {X:Nat -> Bool} {v:Nat -> Value} {a0:Act} {j:Nat} {o:Oper} {u:Value} (ho:l[j]?=some o) (hX:X j=false)
    (hlate:∀ k o',j < k -> l[k]?=some o' -> X k=true -> o'.dst ≠ o.dst ∨ o.dst=none) :
    (act X v l 0 a0).put o.dst u=act (fun k=>if k=j then true else X k) (upd v j u) l 0 a0:=by
 refine X1q (by rw [put_defers,Q2s,Q2s]) fun t=>?_
 by_cases hd:o.dst=some t
 . rcases Nat.lt_or_ge t a0.tmps.size with hl | hl
   . rw [hd,X0k _ _ _ (by rw [X7p]; exact hl),Z2u _ _ t l 0 a0 j o hl ho hd (by simp) (fun k o' hk ho' hd'=>by
      rw [if_neg (by omega)]
      cases hx:X (0 + k) with
      | false=>rfl
      | true =>
        rw [Nat.zero_add] at hx
        rcases hlate k o' hk ho' hx with h | h
        . exact absurd (hd'.trans hd.symm) h
        . rw [h] at hd; cases hd)]
     simp [upd]
   . rw [Array.getElem?_eq_none (by rw [Q8c,X7p]; exact hl),Array.getElem?_eq_none (by rw [X7p]; exact hl)]
 . rw [X4u _ _ _ _ hd]
   refine Q6d _ _ _ _ t l 0 a0 a0 rfl rfl fun k o' ho' hd'=>?_;have hkj:¬ (0 + k=j):=by
    rw [Nat.zero_add]; rintro rfl;rw [ho] at ho'; cases ho'; exact hd hd'
   rw [if_neg hkj];exact ⟨rfl,fun _=>by simp only [upd]; rw [if_neg hkj]⟩
theorem Q3c {a:Array Bool} {j:Nat} (h:j < a.size):a.getD j true=a.getD j false:=by simp [h]
theorem Q3b (n k:Nat):(Array.replicate n false).getD k false=false:=by
 simp only [Array.getD_eq_getD_getElem?,Array.getElem?_replicate]
 split <;> rfl
def left (n:Nat) (listed:Array Bool):Nat:=(List.range n).countP fun i=>!listed.getD i true
theorem X0s {n i:Nat} {listed:Array Bool} (_hn:listed.size=n) (hi:i < n) (h:listed.getD i true=false):left n (listed.setIfInBounds i true) < left n listed:=by
 unfold left;have h2:∀ m,m <= n -> (List.range m).countP (fun k=>!(listed.setIfInBounds i true).getD k true) + (if i < m then 1 else 0)=(List.range m).countP (fun k=>!listed.getD k true):=by
  intro m
  induction m with
  | zero=>intro _; simp
  | succ m ih =>
    intro hm;rw [List.range_succ,List.countP_append,List.countP_append,<- ih (by omega)]
    by_cases hmi:m=i
    . subst hmi
      have h':listed[m]?.getD true=false:=by simpa using h
      simp [h']
    . rw [List.countP_singleton,List.countP_singleton,getD_set_ne true (fun e=>hmi e.symm)]
      split <;> split <;> split <;> omega
 have:=h2 n (Nat.le_refl _);rw [if_pos hi] at this;omega
theorem Y0w (news:List Nat) (tail:List Nat) (kind:Nat -> Kind) {Rel:World -> World -> Prop} {D:Nat -> (Nat -> Value) -> World -> Prop} {E:Nat -> (Nat -> Value) -> World -> World -> Prop}
    {id:Nat} {Q:Exit -> Act -> World -> Prop} {a0:Act} {w:World} (hm:P.follows .mixedOrders=true) (hok:Ok ops pre)
    (htail:∀ i (h:i < tail.length),tail[i] < ops.size) (hchain:∀ i k (hi:i < tail.length) (hk:k < tail.length),i < k -> tail[i] ∈ pre tail[k])
    (hlate:∀ j,j < ops.size -> j ∉ tail -> ∀ k ∈ pre j,k ∉ tail) (hkind:∀ j,j < ops.size -> (kind j=.last ↔ j ∈ tail)) (hearly:∀ j,j < ops.size -> kind j=.world -> ∀ s ∈ tail,j ∈ pre s)
    (hrefl:∀ w,Rel w w) (htrans:∀ a b c,Rel a b -> Rel b c -> Rel a c) (hmono:∀ k,k < ops.size -> ∀ v w w',Rel w w' -> D k v w -> D k v w')
    (hvc:∀ j o,ops[j]?=some o -> j ∉ tail -> ∀ v w1,Rel w.drew w1 -> (∀ k ∈ pre j,D k (mask pre k v) w1) -> vc P ops pre Rel D (fun _ _ _=>False) (fun _ _ _=>False) (kind j) o j (act (fun k=>decide (k < j)) v ops.toList 0 a0) v w1)
    (hvl:∀ c (hc:c < tail.length) o,ops[tail[c]]?=some o -> ∀ v w1,Rel w.drew w1 -> (∀ k ∈ pre tail[c],k ∉ tail -> D k (mask pre k v) w1) -> vc P ops pre Rel D (Tail pre tail E c) (E c) .last o tail[c] (act (fun k=>decide (k < tail[c])) v ops.toList 0 a0) v w1)
    (hnews:∀ j ∈ news,j < ops.size /\ kind j=.world /\ ∀ o,ops[j]?=some o -> Made P o) (hrsz:∀ a b,Rel a b -> a.heap.size <= b.heap.size)
    (hpost:∀ v w1 w',Rel w.drew w1 -> J6m news v -> (∀ k,k < ops.size -> k ∉ tail -> D k (mask pre k v) w1) -> Tail pre tail E tail.length v w1 w' -> Q .normal (act (fun _=>true) v ops.toList 0 a0) w') :
    (Code.region id ops true).wp P Q a0 w:=by
 refine wp_region_any hm ?_;have hclosed:∀ (X:Nat -> Bool),(∀ j o,ops[j]?=some o -> X j=true -> ∀ e ∈ o.after,Region.binds .any e=true -> X e.on=true) ->
     ∀ j o,ops[j]?=some o -> (∀ e ∈ o.after,Region.binds .any e=true -> X e.on=true) -> ∀ i ∈ pre j,X i=true:=by
  intro X hX j
  induction j using Nat.strongRecOn with
  | _ j ih =>
    intro o ho hall i hi;obtain ⟨e,he,hb,hc⟩:=hok.pre j o ho i hi
    rcases hc with rfl | hc
    . exact hall e he hb
    . have hlt:=hok.edge j o ho e he hb
      have hj:j < ops.size:=(Array.getElem?_eq_some_iff.1 ho).1;have ho':ops[e.on]?=some ops[e.on]:=Array.getElem?_eq_getElem (by omega)
      exact ih e.on hlt _ ho' (hX e.on _ ho' (hall e he hb)) i hc
 have main:∀ (fuel:Nat) (listed:Array Bool) (a:Act) (wc:World),listed.size=ops.size -> left ops.size listed <= fuel ->
     (∀ j o,ops[j]?=some o -> listed.getD j false=true -> ∀ e ∈ o.after,Region.binds .any e=true -> listed.getD e.on false=true) ->
     (∃ v w1 c,Inv ops pre Rel D E tail news a0 w.drew (fun k=>listed.getD k false) v w1 c a wc) -> wpAny P .any ops Q fuel listed a wc:=by
  intro fuel;have hdone:∀ (listed:Array Bool) (a:Act) (wc:World),listed.size=ops.size ->
      (∃ v w1 c,Inv ops pre Rel D E tail news a0 w.drew (fun k=>listed.getD k false) v w1 c a wc) -> Region.ready .any ops listed=[] -> Q .normal a wc:=by
   rintro listed a wc hsz ⟨v,w1,c,hI⟩ hr;have hall:∀ j,j < ops.size -> listed.getD j false=true:=by
    intro j
    induction j using Nat.strongRecOn with
    | _ j ih =>
      intro hj;cases hx:listed.getD j false with
      | true=>rfl
      | false =>
        have hmem:j ∈ Region.ready .any ops listed:=mem_ready.2 ⟨by rw [Q3c (by omega)]; exact hx,ops[j],Array.getElem?_eq_getElem hj,fun e he hb =>
         have hlt:=hok.edge j _ (Array.getElem?_eq_getElem hj) e he hb
         ih e.on hlt (by omega)⟩
        rw [hr] at hmem;cases hmem
   have hact:a=act (fun _=>true) v ops.toList 0 a0:=by
    rw [hI.act];refine X1q (by rw [Q2s,Q2s]) fun t=>Q6d _ _ _ _ t _ 0 _ _ rfl rfl fun k o ho _=>⟨?_,fun _=>rfl⟩
    rw [Nat.zero_add];exact hall k (by simpa using (List.getElem?_eq_some_iff.1 ho).1)
   rw [hact];refine hpost v w1 wc hI.rel (fun i hi k hk hne=>hI.newNe i hi k hk hne (hall i (hnews i hi).1) (hall k (hnews k hk).1)) (fun k hk hks=>hI.facts k (hall k hk) hks) ?_;have hl:=hI.last;have hc:c=tail.length:=by
    rcases Nat.lt_or_ge c tail.length with h | h
    . have h1:listed.getD tail[c] false=false:=hI.after c h (Nat.le_refl _)
      have h2:=hall _ (htail c h);rw [h2] at h1; cases h1
    . have:=hI.count; omega
   rw [hc] at hl;exact hl
  induction fuel with
  | zero =>
    intro listed a wc hsz hleft _ hI;have hr:Region.ready .any ops listed=[]:=by
     refine List.eq_nil_iff_forall_not_mem.2 fun j hj=>?_;obtain ⟨hun,o,ho,_⟩:=mem_ready.1 hj;have hlt:j < ops.size:=(Array.getElem?_eq_some_iff.1 ho).1;have:=X0s hsz hlt hun;omega
    exact ⟨hr,hdone listed a wc hsz hI hr⟩
  | succ fuel ih =>
    intro listed a wc hsz hleft hcl hI;refine ⟨hdone listed a wc hsz hI,fun j hj=>?_⟩;obtain ⟨v,w1,c,hI⟩:=hI;obtain ⟨hun,o,ho,hall⟩:=mem_ready.1 hj;have hlt:j < ops.size:=(Array.getElem?_eq_some_iff.1 ho).1;have hunf:listed.getD j false=false:=by rw [<- Q3c (by omega)]; exact hun
    have hpre:=hclosed (fun k=>listed.getD k false) hcl j o ho hall;have hol:ops.toList[j]?=some o:=by simpa using ho
    have hfree:∀ k,k < ops.size -> listed.getD k false=true -> j ∉ pre k:=by
     intro k hk hx hmem;have ho':ops[k]?=some ops[k]:=Array.getElem?_eq_getElem hk;have h2:listed.getD j false=true:=hclosed (fun k=>listed.getD k false) hcl k _ ho' (hcl k _ ho' hx) j hmem;rw [hunf] at h2; cases h2
    have hlater:∀ k o',j < k -> ops[k]?=some o' -> listed.getD k false=true -> o.apart ops o'=true:=by
     intro k o' hk ho' hx
     rcases hok.apart j k o o' hk ho ho' with h | h
     . exact h
     . exact absurd h (hfree k (Array.getElem?_eq_some_iff.1 ho').1 hx)
    have hlooks:∀ t ∈ o.looksAt ops,a.tmps[t]?=(act (fun k=>decide (k < j)) v ops.toList 0 a0).tmps[t]?:=by
     intro t ht;rw [hI.act];refine Q6d _ _ _ _ t _ 0 _ _ rfl rfl fun k o' ho' hd=>?_;rw [Nat.zero_add];refine ⟨?_,fun _=>rfl⟩;have ho'':ops[k]?=some o':=by simpa using ho'
     rcases Nat.lt_trichotomy k j with hk | hk | hk
     . simp only [hk,decide_true]
       rcases hok.apart k j o' o hk ho'' ho with h | h
       . exact absurd ht ((Oper.apart_spec h).1 t hd)
       . exact hpre k h
     . subst hk
       simp [hunf]
     . have hnlt:¬ k < j:=by omega
       simp only [hnlt,decide_false];cases hx:listed.getD k false with
       | false=>rfl
       | true=>exact absurd ht ((Oper.apart_spec (hlater k o' hk ho'' hx)).2.2 t hd)
    have hexec:execOp a.eval o=execOp (act (fun k=>decide (k < j)) v ops.toList 0 a0).eval o:=execOp_congr o (fun cs b=>hok.sel j o cs b ho) (eval_congr o hlooks);have hwant:Region.wanted o (yielded ops a.tmps)=Region.wanted o (yielded ops (act (fun k=>decide (k < j)) v ops.toList 0 a0).tmps):=Q9k o hlooks;have hput:∀ u,a.put o.dst u=act (fun k=>if k=j then true else listed.getD k false) (upd v j u) ops.toList 0 a0:=by
     intro u;rw [hI.act];refine Y4u hol hunf fun k o' hk ho' hx=>?_;cases hd:o.dst with
     | none=>exact .inr rfl
     | some d=>exact .inl ((Oper.apart_spec (hlater k o' hk (by simpa using ho') hx)).2.1 d hd)
    have hX:(fun k=>(listed.setIfInBounds j true).getD k false)=fun k=>if k=j then true else listed.getD k false:=by
     funext k
     split
     . rename_i hk; subst hk; simp [hsz,hlt]
     . rename_i hk; exact getD_set_ne false (Ne.symm hk)
    have hwhich:j ∈ tail -> ∃ h:c < tail.length,tail[c]=j:=by
     intro hmem;obtain ⟨i,hi,he⟩:=List.getElem_of_mem hmem;have hci:c <= i:=by
      rcases Nat.lt_or_ge i c with h | h
      . have:=hI.before i hi h
        simp only [he] at this;rw [hunf] at this; cases this
      . exact h
     have:c=i:=by
      rcases Nat.lt_or_ge c i with h | h
      . have hx:=hpre tail[c] (by rw [<- he]; exact hchain c i (by omega) hi h)
        have h1:=hI.after c (by omega) (Nat.le_refl _)
        rw [hx] at h1; cases h1
      . omega
     subst this;exact ⟨hi,he⟩
    have hnext:∀ (u:Value) (w1' wc':World) (c':Nat),Rel w1 w1' -> (j ∉ tail -> D j (mask pre j (upd v j u)) w1') -> (j ∉ tail -> c'=c) -> (j ∈ tail -> c'=c + 1) -> (j ∈ news -> ∃ g,u=.pointer (some ⟨g,0,none⟩) /\ w1.heap.size <= g /\ g < w1'.heap.size) ->
        Tail pre tail E c' (upd v j u) w1' wc' -> wpAny P .any ops Q fuel (listed.setIfInBounds j true) (a.put o.dst u) wc':=by
     intro u w1' wc' c' hrel hD hc1 hc2 hN hE;refine ih _ _ _ (by simpa using hsz) (by have:=X0s hsz hlt hun; omega) (fun k ok hok' hx e he hb=>?_) ⟨upd v j u,w1',c',⟨by rw [hX]; exact hput u,htrans _ _ _ hI.rel hrel,fun k hx hks=>?_,?_,fun i hi hic=>?_,fun i hi hic=>?_,hE,fun i hi hx=>?_,fun i hi k hk hne hx hy=>?_⟩⟩
     . by_cases hkj:k=j
       . subst hkj
         rw [ho] at hok';cases hok';exact getD_set_true (hall e he hb)
       . rw [getD_set_ne false (Ne.symm hkj)] at hx
         exact getD_set_true (hcl k ok hok' hx e he hb)
     . rw [congrFun hX k] at hx
       by_cases hkj:k=j
       . subst hkj; exact hD hks
       . rw [if_neg hkj] at hx
         have hksz:k < ops.size:=by
          rcases Nat.lt_or_ge k ops.size with h | h
          . exact h
          . rw [<- hsz] at h; simp [Array.getElem?_eq_none h] at hx
         rw [X0q (Ne.symm hkj) (hfree k hksz hx)];exact hmono k hksz _ _ _ hrel (hI.facts k hx hks)
     . by_cases hjt:j ∈ tail
       . obtain ⟨h,_⟩:=hwhich hjt
         rw [hc2 hjt]; omega
       . rw [hc1 hjt]; exact hI.count
     . rw [congrFun hX]
       by_cases hij:tail[i]=j
       . rw [if_pos hij]
       . rw [if_neg hij]
         by_cases hjt:j ∈ tail
         . obtain ⟨h,he⟩:=hwhich hjt
           rw [hc2 hjt] at hic;have:i ≠ c:=fun e=>hij (by subst e; exact he)
           exact hI.before i hi (by omega)
         . rw [hc1 hjt] at hic; exact hI.before i hi hic
     . rw [congrFun hX]
       by_cases hjt:j ∈ tail
       . obtain ⟨h,he⟩:=hwhich hjt
         rw [hc2 hjt] at hic;rw [if_neg (fun e=>by
          have h1:=hchain c i h hi (by omega)
          rw [e,he] at h1;obtain ⟨e',he',hb',hcc⟩:=hok.pre j o ho j h1;have hl:=hok.edge j o ho e' he' hb';have h2:listed.getD j false=true:=hpre j h1;rw [hunf] at h2; cases h2)]
         exact hI.after i hi (by omega)
       . rw [hc1 hjt] at hic
         rw [if_neg (fun e=>hjt (by rw [<- e]; exact List.getElem_mem hi))]
         exact hI.after i hi hic
     . rw [congrFun hX i] at hx
       by_cases hij:i=j
       . subst hij
         obtain ⟨g,hg,_,h2⟩:=hN hi;exact ⟨g,by simp [upd,hg],h2⟩
       . rw [if_neg hij] at hx
         obtain ⟨g,hg,h2⟩:=hI.newIn i hi hx;exact ⟨g,by simp [upd,hij,hg],Nat.lt_of_lt_of_le h2 (hrsz _ _ hrel)⟩
     . rw [congrFun hX i] at hx
       rw [congrFun hX k] at hy
       by_cases hij:i=j
       . subst hij
         rw [if_neg (Ne.symm hne)] at hy;obtain ⟨g,hg,h1,_⟩:=hN hi;obtain ⟨g',hg',h2⟩:=hI.newIn k hk hy;have e1:upd v i u i=u:=by simp [upd]
         have e2:upd v i u k=v k:=by simp [upd,Ne.symm hne]
         rw [e1,e2,hg,hg'];intro he;injection he with he;injection he with he;injection he with he;omega
       . rw [if_neg hij] at hx
         by_cases hkj:k=j
         . subst hkj
           obtain ⟨g,hg,h1,_⟩:=hN hk;obtain ⟨g',hg',h2⟩:=hI.newIn i hi hx;have e1:upd v k u k=u:=by simp [upd]
           have e2:upd v k u i=v i:=by simp [upd,hij]
           rw [e1,e2,hg,hg'];intro he;injection he with he;injection he with he;injection he with he;omega
         . rw [if_neg hkj] at hy
           have e1:upd v j u i=v i:=by simp [upd,hij]
           have e2:upd v j u k=v k:=by simp [upd,hkj]
           rw [e1,e2];exact hI.newNe i hi k hk hne hx hy
    have htailkeep:j ∉ tail -> ∀ u,Tail pre tail E c (upd v j u) w1 wc:=by
     intro hjt u;have hl:=hI.last;cases c with
     | zero=>exact hl
     | succ c =>
       have hct:c < tail.length:=by have:=hI.count; omega
       change E c (mask pre (tail.getD c 0) v) w1 wc at hl;show E c (mask pre (tail.getD c 0) (upd v j u)) w1 wc;have e:tail.getD c 0=tail[c]:=by simp [hct]
       rw [e] at hl ⊢;rw [X0q (fun h=>hjt (by rw [h]; exact List.getElem_mem hct)) (hfree _ (htail c hct) (hI.before c hct (by omega)))]
       exact hl
    have hnone:kind j ≠ .world -> j ∉ news:=fun h1 h2=>h1 (hnews j h2).2.1;have hpass:Region.wanted o (yielded ops (act (fun k=>decide (k < j)) v ops.toList 0 a0).tmps)=false -> j ∉ news:=fun h1 h2=>by
     have h3:=((hnews j h2).2.2 o ho).1;simp [Region.wanted,h3] at h1
    unfold wpOp;simp only [ho];rw [hwant]
    by_cases hjt:j ∈ tail
    . obtain ⟨hc,he⟩:=hwhich hjt
      have hv:=hvl c hc o (by rw [he]; exact ho) v w1 hI.rel (fun k hk hkt=>hI.facts k (hpre k (by rw [<- he]; exact hk)) hkt) wc hI.last
      rw [he] at hv;have hT:∀ u w',E c (mask pre j (upd v j u)) w1 w' -> Tail pre tail E (c + 1) (upd v j u) w1 w':=by
       intro u w' h;show E c (mask pre (tail.getD c 0) (upd v j u)) w1 w';have e:tail.getD c 0=j:=by simp [hc,he]
       rw [e]; exact h
      rcases hv with ⟨hwt,hg⟩ | ⟨hwf,hD⟩
      . rw [if_pos hwt]
        refine .inl ?_;unfold Oper.wp;rw [hexec];exact Q2m (Q4y (fun u w' h=>hnext u w1 w' (c + 1) (hrefl _) (fun h=>absurd hjt h) (fun h=>absurd hjt h) (fun _=>rfl) (fun hn=>absurd hn (hnone (by rw [(hkind j hlt).2 hjt]; simp))) (hT u w' h)) hg)
      . rw [if_neg (by rw [hwf]; simp)]
        exact hnext undef w1 wc (c + 1) (hrefl _) (fun h=>absurd hjt h) (fun h=>absurd hjt h) (fun _=>rfl) (fun hn=>absurd hn (hpass hwf)) (hT _ _ hD)
    . have hfacts:∀ k ∈ pre j,D k (mask pre k v) w1:=fun k hk=>hI.facts k (hpre k hk) (hlate j hlt hjt k hk)
      have hv:=hvc j o ho hjt v w1 hI.rel hfacts;cases hk:kind j with
      | plain =>
        rw [hk] at hv
        rcases hv with ⟨hwt,u,hrun,hD⟩ | ⟨hwf,hD⟩
        . rw [if_pos hwt]
          refine .inl ?_;unfold Oper.wp;rw [hexec,hrun wc];exact hnext u w1 wc c (hrefl _) (fun _=>hD) (fun _=>rfl) (fun h=>absurd h hjt) (fun hn=>absurd hn (hnone (by rw [hk]; simp))) (htailkeep hjt u)
        . rw [if_neg (by rw [hwf]; simp)]
          exact hnext undef w1 wc c (hrefl _) (fun _=>hD) (fun _=>rfl) (fun h=>absurd h hjt) (fun hn=>absurd hn (hpass hwf)) (htailkeep hjt undef)
      | world =>
        have hc0:c=0:=by
         rcases Nat.eq_zero_or_pos c with h | h
         . exact h
         . have h0:0 < tail.length:=by have:=hI.count; omega
           have hx:=hI.before 0 h0 h;exact absurd (hearly j hlt hk tail[0] (List.getElem_mem h0)) (hfree _ (htail 0 h0) hx)
        subst hc0;have hwc:wc=w1:=hI.last;subst hwc;rw [hk] at hv
        rcases hv with ⟨hwt,hg⟩ | ⟨hwf,hD⟩
        . rw [if_pos hwt]
          refine .inl ?_;unfold Oper.wp;rw [hexec]
          by_cases hn:j ∈ news
          . obtain ⟨cc,hrun⟩:=((hnews j hn).2.2 o ho).2 (act (fun k=>decide (k < j)) v ops.toList 0 a0).eval wc
            rw [hrun] at hg ⊢;exact Q2m (hnext _ _ _ 0 hg.1 (fun _=>hg.2) (fun _=>rfl) (fun h=>absurd h hjt) (fun _=>⟨_,rfl,Nat.le_refl _,by rw [World.size_alloc]; exact Nat.lt_succ_self _⟩) rfl)
          . exact Q2m (Q4y (fun u w' h=>hnext u w' w' 0 h.1 (fun _=>h.2) (fun _=>rfl) (fun h=>absurd h hjt) (fun h=>absurd h hn) rfl) hg)
        . rw [if_neg (by rw [hwf]; simp)]
          exact hnext undef wc wc 0 (hrefl _) (fun _=>hD) (fun _=>rfl) (fun h=>absurd h hjt) (fun hn=>absurd hn (hpass hwf)) rfl
      | last=>exact absurd ((hkind j hlt).1 hk) hjt
 refine main ops.size _ a0 _ (by simp) ?_ (fun j o _ hx=>?_) ⟨fun _=>undef,w.drew,0,?_,hrefl _,fun k hx=>?_,Nat.zero_le _,fun i _ h=>absurd h (Nat.not_lt_zero _),fun i _ _=>?_,rfl,fun i _ hx=>?_,fun i _ _ _ _ hx=>?_⟩
 . exact Nat.le_trans (List.countP_le_length) (by simp)
 . have:=Q3b ops.size j
   rw [this] at hx; cases hx
 . refine (X1q (by rw [Q2s]) fun t=>?_)
   have:∀ (l:List Oper) (i:Nat) (a:Act),act (fun k=>(Array.replicate ops.size false).getD k false) (fun _=>undef) l i a=a:=by
    intro l; induction l with
    | nil=>intro i a; rfl
    | cons o l ih=>intro i a; rw [act,ih,Q3b]; rfl
   rw [this]
 . have:=Q3b ops.size k
   rw [this] at hx; cases hx
 . exact Q3b ops.size _
 . have:=Q3b ops.size i
   rw [this] at hx; cases hx
 . have:=Q3b ops.size i
   rw [this] at hx; cases hx
end
end Go.Flow
