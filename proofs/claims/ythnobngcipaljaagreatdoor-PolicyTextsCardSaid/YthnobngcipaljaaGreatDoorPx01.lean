/- What the arguments of a law of chapter 5 read as: seasons, policies, lists of numbers, short lists of truth values. DERIVED: THE SHELF's CONTRACTS AT THIS DUMP, IN PLAIN WORDS (tools/lay-plain.mjs out of 'TryzShelf.lean', which tools/lay-shelf.mjs wrote): THE SAME DECLARATIONS UNDER THE SAME NAMES: 'import', 'namespace', 'open', 'def', 'theorem' AND NOTHING ELSE: no command of the shelf's: FOR A HAND-IN. Each laying: the table of numbers ('.._ren') and one theorem, a field a fact of the dump's own or the kernel's comparison; each contract: ONE APPLICATION. Small aids for the uses of the region theorem and for boxes. What the functions of chapter 5 come to, in plain lists and numbers: no program is in sight here. Contract of the reference: Play. Turning a rule of a policy changes what is done after its history alone: plain lists, no program is in sight. The parts of a string between a byte; strings.Cut and strings.Split in these words. Plain law. A policy and its text: what both sides read and print; what is printed is read as it was, what is read is printed as it was. Plain law. Contract: checkText (of the program). Contracts of the reference: CheckPrint, Text of a digit, Print. Contract of the reference's Print. Contract of the reference's Split; a rule's line in its words. -/
import Derived.Test.YthnobngcipaljaaGreatDoorPp35
import Derived.Laws.IdiomStrings
import Derived.Laws.DeepStrings4
set_option maxRecDepth 1000000
set_option maxHeartbeats 64000000
set_option linter.unusedVariables false
set_option linter.unusedSimpArgs false
set_option linter.constructorNameAsVariable false
open Go.Lib (hid)
namespace Go.Proofs
open Go.RowKit Go.Tw Go.ChangeShapes Go.WideShapes Go.Deep
section
variable {H:Type} {enc:TypeId × Value -> H} {W:World}
theorem Tryz.cBo:Tryz.prog.cellsOf 4=1:=by kernel_rfl
theorem Tryz.cRu:Tryz.prog.cellsOf 115=2:=by kernel_rfl
theorem Tryz.bRu:Tryz.prog.bytesOf 115=32:=by kernel_rfl
theorem J6b {fuel:Nat} {v:Value} {y:DataW H × List MemPlace} (h:DataW.trod enc Tryz.prog W 0 (fun _=>true) true fuel 4 [v]=some y):∃ z,v=.bool z:=by
 obtain ⟨z,h1,_⟩:=DataW.trod_bool Tryz.underlying4 h;exact ⟨z,by simpa using h1⟩
theorem J5l {fuel:Nat} {v:Value} {y:DataW H × List MemPlace} (h:DataW.trod enc Tryz.prog W 0 (fun _=>true) true fuel 45 [v]=some y) (hw:X2y 45 y.1):∃ l,Q3m W v l :=
 X2x (α:=Rul) Tryz.underlying45 Tryz.cRu (by decide) Tryz.bRu (by decide) (fun cs y n hl h hw=>by
  obtain ⟨y0,y1,m,rfl,_,h0,h1⟩:=trod_struct2 Tryz.underlying115 h
  match cs,hl with
  | [c0,c1],_ =>
    have hw2:∀ x ∈ DataW.weightsEach Tryz.prog [22,4] [y0.1,y1.1],x <= 140737488351232:=fun x hx=>hw x (by simpa [DataW.weights,Tryz.underlying115] using hx)
    obtain ⟨w0,_⟩:=Q4u hw2;have h0':DataW.trod enc Tryz.prog W 0 (fun _=>true) true m 22 [c0]=some y0:=by simpa [Tryz.cI,Tryz.cBo] using h0
    have h1':DataW.trod enc Tryz.prog W 0 (fun _=>true) true m 4 [c1]=some y1:=by simpa [Tryz.cI,Tryz.cBo] using h1
    obtain ⟨l,hl⟩:=Q5z h0' w0;obtain ⟨z,rfl⟩:=J6b h1';exact ⟨⟨l,z⟩,hl,rfl⟩)
  (fun _ c c' x hc h=>⟨by rw [<- hc 0 (by decide)]; exact h.1,by rw [<- hc 1 (by decide)]; exact h.2⟩) h hw
end
end Go.Proofs
namespace Go.Proofs
open Go.Shelf
open Go.RowKit Go.Lib in
def Tryz.J6g:Go.Shelf.Ren:=⟨fun | 145=>151 | 220=>181 | 219=>194 | 217=>218 | 225=>219 | 224=>220 | 267=>221 | 266=>242 | 314=>243 | n=>n,fun | 9=>9 | 4=>4 | 59=>224 | 3=>3 | 5=>5 | 46=>262 | 146=>313 | 51=>285 | n=>n,fun | 1=>1 | n=>n⟩
theorem Tryz.lays145:Go.Proofs.Lays.n145 Tryz.prog Tryz.J6g:={
 mixed:=by kernel_rfl
 f145:=Tryz.func151.trans (congrArg some (by kernel_rfl))
 f217:=Tryz.func218.trans (congrArg some (by kernel_rfl))
 f219:=Tryz.func194.trans (congrArg some (by kernel_rfl))
 f220:=Tryz.func181.trans (congrArg some (by kernel_rfl))
 f224:=Tryz.func220.trans (congrArg some (by kernel_rfl))
 f225:=Tryz.func219.trans (congrArg some (by kernel_rfl))
 f266:=Tryz.func242.trans (congrArg some (by kernel_rfl))
 f267:=Tryz.func221.trans (congrArg some (by kernel_rfl))
 f314:=Tryz.func243.trans (congrArg some (by kernel_rfl))
 t3:=Tryz.underlying3
 a3:=Tryz.isAgg3
 z3:=Tryz.sizeOf3
 v3:=Tryz.zeroValue3
 t4:=Tryz.underlying4
 a4:=Tryz.isAgg4
 z4:=Tryz.sizeOf4
 v4:=Tryz.zeroValue4
 t5:=Tryz.underlying5
 a5:=Tryz.isAgg5
 z5:=Tryz.sizeOf5
 v5:=Tryz.zeroValue5
 t9:=Tryz.underlying9
 a9:=Tryz.isAgg9
 z9:=Tryz.sizeOf9
 v9:=Tryz.zeroValue9
 t46:=Tryz.underlying262
 a46:=Tryz.isAgg262
 z46:=Tryz.sizeOf262
 v46:=Tryz.zeroValue262
 t51:=Tryz.underlying285
 a51:=Tryz.isAgg285
 z51:=Tryz.sizeOf285
 v51:=Tryz.zeroValue285
 t59:=Tryz.underlying224
 a59:=Tryz.isAgg224
 z59:=Tryz.sizeOf224
 v59:=Tryz.zeroValue224
 t146:=Tryz.underlying313
 a146:=Tryz.isAgg313
 z146:=Tryz.sizeOf313
 v146:=Tryz.zeroValue313
 g1:=by kernel_rfl }
open Go.RowKit Go.Lib in
theorem Tryz.strings_Cut (s sep:ByteArray) (m:Int) (w:World) (hs:s.size < 4294967281) (hm:w.cell? ⟨1,0,none⟩=some (.int .i64 m)) :
    Calls Tryz.prog 151 #[.string s,.string sep] w fun e w'=>e=.returned (.tuple #[.string ⟨(Lib.cut s.data.toList sep.data.toList).1.toArray⟩,.string ⟨(Lib.cut s.data.toList sep.data.toList).2.1.toArray⟩,.bool (Lib.cut s.data.toList sep.data.toList).2.2]) /\ ∃ n,w'=w.drewN n:=Any.strings_Cut Tryz.lays145 s sep m w hs hm
open Go.RowKit Go.Lib in
def Tryz.lays146_ren:Go.Shelf.Ren:=⟨fun | 146=>182 | 221=>195 | 268=>222 | 138=>223 | 143=>224 | 195=>244 | 197=>245 | 218=>246 | 219=>194 | 260=>251 | 217=>218 | 225=>219 | 224=>220 | 267=>221 | 266=>242 | 314=>243 | n=>n,fun | 9=>9 | 31=>157 | 3=>3 | 4=>4 | 0=>0 | 105=>316 | 21=>21 | 5=>5 | 46=>262 | 119=>323 | 139=>326 | 138=>325 | 146=>313 | 51=>285 | n=>n,fun | 1=>1 | 3=>5 | 4=>6 | n=>n⟩
theorem Tryz.lays146:Go.Proofs.Lays.n146 Tryz.prog Tryz.lays146_ren:={
 mixed:=by kernel_rfl
 f138:=Tryz.func223.trans (congrArg some (by kernel_rfl))
 f143:=Tryz.func224.trans (congrArg some (by kernel_rfl))
 f146:=Tryz.func182.trans (congrArg some (by kernel_rfl))
 f195:=Tryz.func244.trans (congrArg some (by kernel_rfl))
 f197:=Tryz.func245.trans (congrArg some (by kernel_rfl))
 f217:=Tryz.func218.trans (congrArg some (by kernel_rfl))
 f218:=Tryz.func246.trans (congrArg some (by kernel_rfl))
 f219:=Tryz.func194.trans (congrArg some (by kernel_rfl))
 f221:=Tryz.func195.trans (congrArg some (by kernel_rfl))
 f224:=Tryz.func220.trans (congrArg some (by kernel_rfl))
 f225:=Tryz.func219.trans (congrArg some (by kernel_rfl))
 f260:=Tryz.func251.trans (congrArg some (by kernel_rfl))
 f266:=Tryz.func242.trans (congrArg some (by kernel_rfl))
 f267:=Tryz.func221.trans (congrArg some (by kernel_rfl))
 f268:=Tryz.func222.trans (congrArg some (by kernel_rfl))
 f314:=Tryz.func243.trans (congrArg some (by kernel_rfl))
 t0:=Tryz.underlying0
 a0:=Tryz.isAgg0
 z0:=Tryz.sizeOf0
 v0:=Tryz.zeroValue0
 t3:=Tryz.underlying3
 a3:=Tryz.isAgg3
 z3:=Tryz.sizeOf3
 v3:=Tryz.zeroValue3
 t4:=Tryz.underlying4
 a4:=Tryz.isAgg4
 z4:=Tryz.sizeOf4
 v4:=Tryz.zeroValue4
 t5:=Tryz.underlying5
 a5:=Tryz.isAgg5
 z5:=Tryz.sizeOf5
 v5:=Tryz.zeroValue5
 t9:=Tryz.underlying9
 a9:=Tryz.isAgg9
 z9:=Tryz.sizeOf9
 v9:=Tryz.zeroValue9
 t21:=Tryz.underlying21
 a21:=Tryz.isAgg21
 z21:=Tryz.sizeOf21
 v21:=Tryz.zeroValue21
 t31:=Tryz.underlying157
 a31:=Tryz.isAgg157
 z31:=Tryz.sizeOf157
 v31:=Tryz.zeroValue157
 t46:=Tryz.underlying262
 a46:=Tryz.isAgg262
 z46:=Tryz.sizeOf262
 v46:=Tryz.zeroValue262
 t51:=Tryz.underlying285
 a51:=Tryz.isAgg285
 z51:=Tryz.sizeOf285
 v51:=Tryz.zeroValue285
 t105:=Tryz.underlying316
 a105:=Tryz.isAgg316
 z105:=Tryz.sizeOf316
 v105:=Tryz.zeroValue316
 t119:=Tryz.underlying323
 a119:=Tryz.isAgg323
 z119:=Tryz.sizeOf323
 t138:=Tryz.underlying325
 a138:=Tryz.isAgg325
 z138:=Tryz.sizeOf325
 v138:=Tryz.zeroValue325
 t139:=Tryz.underlying326
 a139:=Tryz.isAgg326
 z139:=Tryz.sizeOf326
 v139:=Tryz.zeroValue326
 t146:=Tryz.underlying313
 a146:=Tryz.isAgg313
 z146:=Tryz.sizeOf313
 v146:=Tryz.zeroValue313
 g1:=by kernel_rfl
 g3:=by kernel_rfl
 g4:=by kernel_rfl }
open Go.RowKit Go.Lib in
theorem Tryz.strings_Split (s sep:ByteArray) (m:Int) (w:World) (hs:s.size < 4294967281) (hm:w.cell? ⟨1,0,none⟩=some (.int .i64 m)) (h1:1 <= sep.size) :
    Calls Tryz.prog 182 #[.string s,.string sep] w fun e w' =>
     e=.returned (.slice (some ⟨w.heap.size,0,none⟩) (Lib.countB s sep + 1) (Lib.countB s sep + 1)) /\ w'=w.alloc (.cells ((Lib.splitB sep 0 (Lib.countB s sep) s).map Value.string).toArray 9):=Any.strings_Split Tryz.lays146 (by kernel_rfl) s sep m w hs hm h1
end Go.Proofs
namespace Go.Tw
open Go.RowKit Go.Flow
theorem J5t {α:Type} {P:Program} {K:Value -> World -> Prop} {o:Oper} {a:Act} {w:World} (s x:Operand) (t:TypeId) (ho:o.op=.call { callee:=.builtin .append,args:=#[s,x],argTypes:=#[t,t] })
    (base:Nat) (e:TypeId) (i:TypeInfo) (z:Value) (bytes:Nat) (ht:P.underlying t=some (.slice e)) (hi:P.info? e=some i) (hz:i.zero=some z) (hsize:i.size=1) (hby:i.bytes=bytes) (hzs:z.cells.size=1)
    (enc:α -> Value) (v:Value) (xs ys:List α) (hs:a.eval s=v) (hown:Q0q w base e enc v xs) (ad:Addr) (c:Nat) (hx:a.eval x=.slice (some ad) ys.length c)
    (hnews:∀ j (h:j < ys.length),w.cell? (ad.add j)=some (enc ys[j])) (h1:∀ y,(enc y).oneCell'=true)
    (h63:xs.length + ys.length <= 17592186043904) (hb:bytes <= 8) (hbase:base <= w.heap.size)
    (h:∀ v' w',Q0q w' base e enc v' (xs ++ ys) -> w.grownBy w' v.ownBlock -> K v' w'):gives P K ((execOp a.eval o).run P w):=by
 obtain ⟨v',w',hr,h2,h3,h4⟩:=run_append_own (P:=P) w base t o.type e i z 1 bytes ht hi hz hsize hby hzs (by decide) v xs.length (xs.map enc) hown ad ys.length c (ys.map enc) (by simp) (fun j u hu=>by
  rw [List.getElem?_map] at hu
  rcases Nat.lt_or_ge j ys.length with hj | hj
  . rw [List.getElem?_eq_getElem hj] at hu
    simp only [Option.map_some,Option.some.injEq] at hu;rw [<- hu]; exact hnews j hj
  . rw [List.getElem?_eq_none hj] at hu; cases hu) (fun u hu=>by obtain ⟨y,_,rfl⟩:=List.mem_map.1 hu; exact h1 y) (by unfold maxLen; omega) (by
    have:(xs.length + ys.length) * bytes <= 17592186043904 * 8:=Nat.mul_le_mul h63 hb;omega) hbase
 unfold execOp;simp only [ho,resolve,invoke,builtin,Sem.run_bind,Sem.run_pure,Result.andThen_ok,List.map_toArray,List.map_cons,List.map_nil,hs,hx,hr];refine h v' w' ?_ h3;unfold Q0q
 simpa using h2
end Go.Tw
namespace Go.Tw
namespace Q0b
end Q0b
namespace Q0b
end Q0b
def J5w (p:List Rul) (n:Nat):List Rul:=(List.range p.length).map fun i=>⟨Q0n p i,Q3p p i != (i == n)⟩
namespace Mem
end Mem
namespace Mem
end Mem
end Go.Tw
namespace Go.Proofs
open Go.RowKit Go.Tw Go.Flow
theorem J8r {s:Q0b} (hS:Q1b s) {p:List Rul} (hp:Q2d s.hist p=0):p.length <= 48:=by
 have:=Z5n hS;rw [<- Q4h.1 hp,List.length_map] at this;exact this
attribute [local go_sem ↓] X3l
end Go.Proofs
namespace Go.Tw
theorem J8h (p:List Rul) (n:Nat):(J5w p n).length=p.length:=by simp [J5w]
theorem J5y (p:List Rul) (n:Nat):(J5w p n).map Rul.classes=p.map Rul.classes:=by
 refine List.ext_getElem (by simp [J5w]) fun i h1 h2=>?_
 have hi:i < p.length:=by simpa using h2
 simp [J5w,Q7f hi]
theorem J6w {h:List (List Int)} {p:List Rul} {n:Nat} (hp:Q2d h p=0):Q2d h (J5w p n)=0:=by
 rw [Q4h] at hp ⊢;rw [J5y,hp]
end Go.Tw
namespace Go.Proofs
open Go.Lib
theorem J4v (c:UInt8):parts c []=[[]]:=rfl
theorem parts_eq (c:UInt8) (l:List UInt8):parts c (c :: l)=[] :: parts c l:=by rw [parts,if_pos rfl]
theorem J2r (c:UInt8):∀ l,∃ x r,parts c l=x :: r
 | []=>⟨_,_,rfl⟩
 | b :: l=>by
   unfold parts
   split
   . exact ⟨_,_,rfl⟩
   . split <;> exact ⟨_,_,rfl⟩
theorem J3j {c b:UInt8} {l x:List UInt8} {r:List (List UInt8)} (h:b ≠ c) (hp:parts c l=x :: r):parts c (b :: l)=(b :: x) :: r:=by
 rw [parts,if_neg h,hp]
theorem J5x {c:UInt8} {x r:List UInt8} (h:c ∉ x):parts c (x ++ c :: r)=x :: parts c r:=by
 induction x with
 | nil=>exact parts_eq c r
 | cons b x ih =>
   rw [List.mem_cons,not_or] at h;exact J3j (fun e=>h.1 e.symm) (ih h.2)
theorem J5r {c:UInt8} {x:List UInt8} (h:c ∉ x):parts c x=[x]:=by
 induction x with
 | nil=>rfl
 | cons b x ih =>
   rw [List.mem_cons,not_or] at h;exact J3j (fun e=>h.1 e.symm) (ih h.2)
theorem J3k (c:UInt8):∀ l:List UInt8,(parts c l).length <= l.length + 1
 | []=>by simp [parts]
 | b :: l=>by
   have ih:=J3k c l;obtain ⟨x,r,hp⟩:=J2r c l
   by_cases hb:b=c
   . subst hb; rw [parts_eq]; simp only [List.length_cons]; omega
   . rw [J3j hb hp]; rw [hp] at ih; simp only [List.length_cons] at ih ⊢; omega
theorem J3b (c:UInt8):∀ (l:List UInt8),∀ x ∈ parts c l,x.length <= l.length
 | [],x,hx=>by
   rw [J4v,List.mem_singleton] at hx;subst hx; simp
 | b :: l,x,hx=>by
   obtain ⟨y,r,hp⟩:=J2r c l
   by_cases hb:b=c
   . subst hb
     rw [parts_eq] at hx
     rcases List.mem_cons.1 hx with rfl | hx
     . simp
     . have:=J3b b l x hx; simp only [List.length_cons]; omega
   . rw [J3j hb hp] at hx
     rcases List.mem_cons.1 hx with rfl | hx
     . have:=J3b c l y (by rw [hp]; exact List.mem_cons_self ..); simp only [List.length_cons]; omega
     . have:=J3b c l x (by rw [hp]; exact List.mem_cons_of_mem _ hx); simp only [List.length_cons]; omega
theorem J3l {c:UInt8} {x r:List UInt8} (h:c ∉ x):index (x ++ c :: r) [c]=x.length:=by
 induction x with
 | nil=>show index (c :: r) [c]=0; unfold index; rw [if_pos (by simp)]
 | cons b x ih =>
   rw [List.mem_cons,not_or] at h;show index (b :: (x ++ c :: r)) [c]=_;unfold index;have hb:([c].isPrefixOf (b :: (x ++ c :: r)))=false:=by
    show (c == b && List.isPrefixOf [] _)=false;rw [beq_false_of_ne h.1]; rfl
   rw [hb,ih h.2];have:((x.length:Int) == -1)=false:=by rw [beq_eq_false_iff_ne]; omega
   rw [this];simp
theorem J5p {c:UInt8} {x:List UInt8} (h:c ∉ x):index x [c]=-1:=by
 induction x with
 | nil=>rfl
 | cons b x ih =>
   rw [List.mem_cons,not_or] at h;unfold index;have hb:([c].isPrefixOf (b :: x))=false:=by
    show (c == b && List.isPrefixOf [] _)=false;rw [beq_false_of_ne h.1]; rfl
   rw [hb,ih h.2];rfl
theorem J9d {c:UInt8} {x r:List UInt8} (h:c ∉ x):cut (x ++ c :: r) [c]=(x,r,true):=by
 unfold cut;rw [J3l h,if_pos (by omega)]
 simp
theorem J9b {c:UInt8} {x:List UInt8} (h:c ∉ x):cut x [c]=(x,[],false):=by
 unfold cut;rw [J5p h,if_neg (by decide)]
theorem J3t (c:UInt8):∀ (n:Nat) (s:List UInt8),s.length <= n -> splitK [c] 0 (s.count c) s=parts c s
 | n,s,hn=>by
   by_cases h:c ∈ s
   . obtain ⟨x,r,rfl,hx⟩:=List.eq_append_cons_of_mem h
     have e:(x ++ c :: r).count c=r.count c + 1:=by
      rw [List.count_append,List.count_cons_self,List.count_eq_zero_of_not_mem hx]; omega
     rw [e,splitK,J3l hx];have h1:((x.length:Int) == -1)=false:=by rw [beq_eq_false_iff_ne]; omega
     rw [h1,J5x hx];simp only [List.length_append,List.length_cons] at hn;cases n with
     | zero=>omega
     | succ n =>
       have e2:(x ++ c :: r).drop (((x.length:Int)).toNat + [c].length)=r:=by simp
       rw [e2];simp only [Bool.false_eq_true,if_false,J3t c n r (by omega)]
       simp
   . rw [List.count_eq_zero_of_not_mem h,J5r h]
     rfl
def J2q (c:UInt8) (s:ByteArray):List ByteArray:=(parts c s.data.toList).map fun l=>⟨l.toArray⟩
theorem J3r (c:UInt8) (s:ByteArray):splitB ⟨#[c]⟩ 0 (countB s ⟨#[c]⟩) s=J2q c s:=by
 have h:=splitB_data ⟨#[c]⟩ 0 (countB s ⟨#[c]⟩) s;have e:countB s ⟨#[c]⟩=s.data.toList.count c:=count_one c s.data.toList;rw [e] at h ⊢;have h2:splitK [c] 0 (s.data.toList.count c) s.data.toList=parts c s.data.toList:=J3t c _ _ (Nat.le_refl _);have h3:(splitB ⟨#[c]⟩ 0 (s.data.toList.count c) s).map (·.data.toList)=parts c s.data.toList:=h.trans h2;unfold J2q;rw [<- h3,List.map_map];have e4:((fun l=>(⟨l.toArray⟩:ByteArray)) ∘ fun x:ByteArray=>x.data.toList)=id:=by
  funext x
  rfl
 rw [e4,List.map_id]
theorem J4s (c:UInt8) (s:ByteArray):∃ x r,J2q c s=x :: r:=by
 obtain ⟨x,r,h⟩:=J2r c s.data.toList;unfold J2q;rw [h];exact ⟨_,_,rfl⟩
end Go.Proofs
namespace Go.Proofs
open Go.Tw
def J2t:List UInt8 -> Option Int
 | [b]=>if 48 <= b.toNat /\ b.toNat <= 57 then some ((b.toNat:Int) - 48) else none
 | _=>none
def J2m:List (List UInt8) -> Option Rul
 | []=>none
 | [w]=>if w=J0g then some ⟨[],true⟩ else if w=J0z then some ⟨[],false⟩ else none
 | w :: v :: r=>match J2t w with
   | none=>none
   | some x=>(J2m (v :: r)).map fun q=>⟨x :: q.classes,q.close⟩
def J2k:List Rul -> Nat -> List (List UInt8) -> List Rul × Int × Int
 | _,k,[]=>([],(k:Int),26)
 | p,k,[x]=>if x.isEmpty then (if Q6h p=0 then (p,0,0) else ([],(k:Int),Q6h p)) else ([],(k:Int),26)
 | p,k,x :: y :: r=>match J2m (parts 32 x) with
   | none=>([],(k:Int),26)
   | some q=>J2k (p ++ [q]) (k + 1) (y :: r)
def J2o (s:ByteArray):List Rul × Int × Int:=if 4096 < s.size then ([],0,27) else J2k [] 0 (parts 10 s.data.toList)
theorem J6i (c:UInt8):∀ (ws:List (List UInt8)) (n:Nat),(∀ w ∈ ws,w.length <= n) -> (glue c ws).length <= ws.length * (n + 1)
 | [],_,_=>by simp [glue]
 | [w],n,h=>by have:=h w List.mem_cons_self; simp only [glue,List.length_singleton]; omega
 | w :: v :: r,n,h=>by
   have h1:=h w List.mem_cons_self;have h2:=J6i c (v :: r) n fun z hz=>h z (List.mem_cons_of_mem _ hz);show (w ++ c :: glue c (v :: r)).length <= (v :: r).length.succ * (n + 1);rw [Nat.succ_mul,List.length_append,List.length_cons]; omega
theorem J6q (r:Rul):∀ w ∈ Y3e r,w.length <= 5:=by
 intro w hw
 rcases List.mem_append.1 hw with hw | hw
 . obtain ⟨x,-,rfl⟩:=List.mem_map.1 hw; simp
 . rw [List.mem_singleton] at hw; subst hw; cases r.close <;> decide
theorem J8f {r:Rul} (h:r.classes.length <= 6):(Q8v r).length <= 42:=by
 have h1:=J6i 32 (Y3e r) 5 (J6q r);have h2:(Y3e r).length=r.classes.length + 1:=by simp [Y3e]
 rw [h2] at h1;unfold Q8v; omega
theorem J6k (n:Nat):∀ ls:List (List UInt8),(∀ x ∈ ls,x.length <= n) -> (textOf ls).length <= ls.length * (n + 1)
 | [],_=>by simp [textOf]
 | x :: r,h=>by
   have h1:=h x List.mem_cons_self;have h2:=J6k n r fun z hz=>h z (List.mem_cons_of_mem _ hz);have e:textOf (x :: r)=x ++ 10 :: textOf r:=by simp [textOf]
   rw [e,List.length_cons,Nat.succ_mul,List.length_append,List.length_cons]; omega
end Go.Proofs
namespace Go.Proofs
open Go.RowKit Go.Tw Go.Flow
attribute [local go_sem] Oper.semAt_some
theorem J5k {X:Option Addr} {l c:Nat} {b:Bool}:∀ u ∈ (#[Value.slice X l c,.bool b]:Array Value).toList,u.oneCell'=true:=by
 intro u hu;simp only [List.mem_cons,List.not_mem_nil,or_false] at hu
 rcases hu with rfl | rfl <;> rfl
end Go.Proofs
namespace Go.Proofs
open Go.RowKit Go.Tw Go.Flow
theorem J3a (w:World) (v:Value) (p:List Rul) (hv:Q0w w v p) :
    Calls Tryz.prog 83 #[v] w fun e w'=>e=.returned (.int .i64 (Q6h p)) /\ Ext w w':=by
 obtain ⟨a,rfl,h2⟩:=hv;obtain ⟨A,cap,rfl,hl,hcap,hc⟩:=h2.opened;have HC:=hid hc;clear h2 hc;have HTE:Hid (Q6h p=if 48 < p.length then 5 else Q0g (p.map Q5c)):=hid rfl
 obtain ⟨n,hn⟩:∃ n,p.length=n:=⟨_,rfl⟩;have HN:=hid hn;rw [hn] at HTE hl HC ⊢;clear hn
 by_cases h48:48 < n
 . rw [if_pos h48] at HTE
   have hI:(48:Int) < n:=by omega
   rw [HTE.out];go_enter Tryz.func83,Tryz.ntmps83;go_wp2;go_ret;exact ⟨rfl,Ext.box _ _⟩
 rw [if_neg h48] at HTE;have hI:¬ (48:Int) < n:=by omega
 rw [HTE.out];go_enter Tryz.func83,Tryz.ntmps83;go_wp2_with fail;obtain ⟨W,hWW,k0,HXW,eW⟩:=Q1t w 47 #[.slice A n cap];rw [hWW];clear hWW;have K0:=hid k0;clear k0 hI h48
 go_loopw [3] (fun i wr=>∃ k:Nat,k <= n /\ i=.int .i64 k /\ Q0g ((p.drop k).map Q5c)=Q0g (p.map Q5c) /\ Ext W wr) (fun i _=>n - (intOf i).toNat)
 case atStart=>exact ⟨0,Nat.zero_le _,rfl,rfl,Ext.refl _⟩
 case round =>
  obtain ⟨k,hk,rfl,hfe,hxr⟩:=hrel;have c0:=(K0.out.ext hxr).cell 0;simp only [Go.Tw.gA,Go.Tw.gB] at c0;have HXR:=hid hxr;clear hxr
  by_cases hlt:k < n
  . have hkI:(k:Int) < n:=by omega
    obtain ⟨br,off,x,rfl,-,e0,-,hx⟩:=HC.out k hlt;have HI:=hid (hx.ext (HXW.out.trans HXR.out));obtain ⟨X,capx,rfl,-,-,-⟩:=hx.opened;replace e0:=(HXW.out.trans HXR.out).cell e0;have hdr:=Y1i (p:=p) (k:=k) (by rw [HN.out]; exact hlt)
    rw [hfe] at hdr;have hre:Y3t p k=if (Q0n p k).length=0 then 12 else if 6 < (Q0n p k).length then 5 else Q0o (Q0n p k) 9:=rfl
    obtain ⟨cs,hcs⟩:∃ c,Q0n p k=c:=⟨_,rfl⟩;obtain ⟨re,hree⟩:∃ c,Y3t p k=c:=⟨_,rfl⟩;obtain ⟨fe,hfee⟩:∃ c,Q0g (p.map Q5c)=c:=⟨_,rfl⟩;rw [hcs] at e0 hre HI;rw [hree] at hdr hre;rw [hfee] at hdr;have HFE:=hid hfee;have HDR:=hid hdr;have HRE:=hid hre;clear hfe hcs hree hdr hre hx hfee;obtain ⟨L,hL⟩:∃ L,cs.length=L:=⟨_,rfl⟩;have hi:=HI.out;have hre:=HRE.out;rw [hL] at e0 hi hre;have HI2:=hid hi;have HRE2:=hid hre;clear HI HRE hi hre hL
    by_cases g0:L=0
    . have hLz:((L:Int) == 0)=true:=by simp [g0]
      have HR:Hid (re=12):=hid (by rw [HRE2.out,if_pos g0])
      have HF:Hid (fe=12):=hid (by rw [HDR.out,HR.out]; rfl)
      clear g0
      go_light
      go_wp2;go_ret;exact ⟨by rw [HFE.out,HF.out]; rfl,HXW.out.trans HXR.out⟩
    have hLz:((L:Int) == 0)=false:=by simp [g0]
    by_cases g6:6 < L
    . have hL6:(6:Int) < (L:Int):=by omega
      have HR:Hid (re=5):=hid (by rw [HRE2.out,if_neg g0,if_pos g6])
      have HF:Hid (fe=5):=hid (by rw [HDR.out,HR.out]; rfl)
      clear g0 g6
      go_light
      go_wp2;go_ret;exact ⟨by rw [HFE.out,HF.out]; rfl,HXW.out.trans HXR.out⟩
    have hL6:¬ (6:Int) < (L:Int):=by omega
    have HR:Hid (re=Q0o cs 9):=hid (by rw [HRE2.out,if_neg g0,if_neg g6])
    clear g0 g6;go_wp2_with fail;refine (Q6c _ _ cs 9 HI2.out).mono ?_;rintro e w2 ⟨rfl,hx2⟩;have HX2:=hid (HXR.out.trans hx2);rw [<- HR.out];clear hx2
    by_cases hr0:re=0
    . have hrb:(re != 0)=false:=by simp [hr0]
      have HD:Hid (Q0g ((p.drop (k + 1)).map Q5c)=fe):=hid (by have:=HDR.out; rw [if_pos hr0] at this; exact this.symm)
      clear hr0;go_wp2;go_roundw
      case rel=>exact ⟨k + 1,by omega,by go_num,by rw [HD.out,HFE.out],HX2.out⟩
      case measure=>simp [intOf]; omega
    . have hrb:(re != 0)=true:=by simp [hr0]
      have HF:Hid (fe=re):=hid (by rw [HDR.out,if_neg hr0])
      clear hr0;go_wp2;go_ret;exact ⟨by rw [HFE.out,HF.out]; rfl,HXW.out.trans HX2.out⟩
  . have hkI:¬ (k:Int) < n:=by omega
    have hkn:k=n:=by omega
    have HZ:Hid (Q0g (p.map Q5c)=0):=hid (by rw [<- hfe,hkn,List.drop_eq_nil_of_le (by rw [HN.out]; omega)]; rfl)
    clear hfe;go_wp2;go_ret;exact ⟨by rw [HZ.out]; rfl,HXW.out.trans HXR.out⟩
theorem J7p {n:Nat} (h:n < 10):Q3x n=⟨#[UInt8.ofNat (48 + n)]⟩:=by
 unfold Q3x;rw [Int.toNat_natCast];unfold Lib.decDigits;rw [dif_pos h]
theorem J5o (w:World) {n:Nat} (h:n < 10):(convert 212 9 (.slice (some ⟨w.heap.size,0,none⟩) 1 1)).run Tryz.prog (w.alloc (.cells #[.int .u8 (48 + (n:Int))] 5))=.ok (.string (Q3x n)) (w.alloc (.cells #[.int .u8 (48 + (n:Int))] 5)):=by
 have:=run_convert_bytes_back (P:=Tryz.prog) (w.alloc (.cells #[.int .u8 (48 + (n:Int))] 5)) 212 9 5 ⟨w.heap.size,0,none⟩ 1 [UInt8.ofNat (48 + n)] (by kernel_rfl) (by kernel_rfl) (by kernel_rfl) (fun j hj=>by
  have e:j=0:=by simpa using hj
  subst e;rw [addr_add,World.cell?_alloc_at _ _ _ _ rfl];have e2:(UInt8.ofNat (48 + n)).toNat=48 + n:=by rw [UInt8.toNat_ofNat']; omega
  simp only [List.getElem_cons_zero,e2];rw [Int.natCast_add];rfl)
 rw [J7p h];exact this
theorem J8c (w:World) (x:Int) (h0:0 <= x) (h9:x <= 9):Calls Tryz.prog 153 #[.int .i64 x] w fun e w'=>e=.returned (.string (Q3x x)) /\ Ext w w':=by
 obtain ⟨n,rfl⟩:∃ n:Nat,x=n:=⟨x.toNat,by omega⟩
 have h:n < 10:=by omega
 have h1:¬ (9:Int) < (n:Int):=by omega
 have h2:¬ (n:Int) < (-9:Int):=by omega
 have h3:¬ (n:Int) < (0:Int):=by omega
 have hw:IntKind.i64.wrap (48 + (n:Int))=48 + n:=Q2v _ (by omega) (by omega)
 have hc:=J5o w h;go_enter Tryz.func153,Tryz.ntmps153;go_wp2;go_ret;exact ⟨rfl,Ext.box _ _⟩
end Go.Proofs
namespace Go.Proofs
open Go.RowKit Go.Tw Go.Flow
def J3g (l:List Int) (j:Nat):List UInt8:=((l.take j).map fun x=>[J0u x,32]).flatten
theorem J6z {l:List Int} {j:Nat} (hj:j < l.length):J3g l (j + 1)=J3g l j ++ [J0u (ix l j),32]:=by
 unfold J3g;rw [List.take_succ_eq_append_getElem hj,List.map_append,List.flatten_append,Q4s hj];simp only [List.map_cons,List.map_nil,List.flatten_cons,List.flatten_nil,List.append_nil]
theorem J7w (l:List Int) (j:Nat):(J3g l j).length <= 2 * j:=by
 unfold J3g;have h:∀ l:List Int,((l.map fun x=>[J0u x,32]).flatten).length=2 * l.length:=by
  intro l
  induction l with
  | nil=>rfl
  | cons x r ih=>simp only [List.map_cons,List.flatten_cons,List.length_append,List.length_cons,List.length_nil] at ih ⊢; omega
 rw [h,List.length_take]; omega
theorem J6m:∀ (l:List Int) (e:List UInt8),glue 32 (l.map (fun x=>[J0u x]) ++ [e])=J3g l l.length ++ e
 | [],e=>rfl
 | x :: l,e=>by
   have ih:=J6m l e;obtain ⟨y,r,hr⟩:∃ y r,l.map (fun x=>[J0u x]) ++ [e]=y :: r:=by cases l with | nil=>exact ⟨_,_,rfl⟩ | cons a b=>exact ⟨_,_,rfl⟩
   rw [List.map_cons,List.cons_append,hr];show [J0u x] ++ 32 :: glue 32 (y :: r)=_;rw [<- hr,ih];unfold J3g;rw [List.take_length,List.take_length];rfl
def J8g (p:List Rul) (k j:Nat):ByteArray:=⟨(Q7j p k ++ J3g (Q0n p k) j).toArray⟩
def J7t (p:List Rul) (k:Nat):ByteArray:=⟨(Q7j p k).toArray⟩
theorem J6o {a b:ByteArray} (h:a.data.toList=b.data.toList):a=b:=by
 apply ByteArray.ext
 exact Array.toList_inj.1 h
theorem J7j (a b:ByteArray):(a ++ b).data.toList=a.data.toList ++ b.data.toList:=by rw [ByteArray.data_append,Array.toList_append]
theorem J7v (p:List Rul) (k:Nat):J8g p k 0=J7t p k:=by
 apply J6o
 show Q7j p k ++ J3g (Q0n p k) 0=Q7j p k;simp [J3g]
theorem J7x {p:List Rul} {k j:Nat} (hj:j < (Q0n p k).length) (h0:0 <= ix (Q0n p k) j) (h9:ix (Q0n p k) j <= 9):J8g p k (j + 1)=J8g p k j ++ Q3x (ix (Q0n p k) j) ++ ⟨#[32]⟩:=by
 apply J6o
 rw [J7j,J7j,Z5y h0 h9];show Q7j p k ++ J3g (Q0n p k) (j + 1)=(Q7j p k ++ J3g (Q0n p k) j) ++ [J0u _] ++ [32];rw [J6z hj,List.append_assoc,List.append_assoc];rfl
def J9f (c:Bool):ByteArray:=if c then ⟨#[99,108,111,115,101,10]⟩ else ⟨#[111,112,101,110,10]⟩
theorem J7u {p:List Rul} {k:Nat} (hk:k < p.length):J7t p (k + 1)=J8g p k (Q0n p k).length ++ J9f (Q3p p k):=by
 apply J6o
 rw [J7j];show Q7j p (k + 1)=(Q7j p k ++ J3g (Q0n p k) (Q0n p k).length) ++ (J9f (Q3p p k)).data.toList;rw [Y5o hk];unfold Q8v Y3e;rw [J6m,List.append_assoc,List.append_assoc]
 congr 2
 show Z9y (Q3p p k) ++ [10]=_;cases Q3p p k <;> rfl
theorem J7s (p:List Rul):J7t p 0=⟨#[]⟩:=rfl
theorem J8l (p:List Rul):J7t p p.length=Z6l p:=by unfold J7t Z6l; rw [Y8w]
theorem J7q {p:List Rul} (h:Q6h p=0) {k:Nat} (hk:k <= p.length):(J7t p k).size <= 3000:=by
 obtain ⟨h1,h2⟩:=Y1x h;have:=J6k 42 ((p.take k).map Q8v) fun x hx=>by
  obtain ⟨r,hr,rfl⟩:=List.mem_map.1 hx;exact J8f (h2 r (List.mem_of_mem_take hr)).len
 rw [List.length_map,List.length_take] at this;have e:(J7t p k).size=(Q7j p k).length:=by show (Q7j p k).toArray.size=_; simp
 rw [e]; unfold Q7j; omega
theorem J8a (p:List Rul) (k j:Nat):(J8g p k j).size <= (J7t p k).size + 2 * j:=by
 have e:(J7t p k).size=(Q7j p k).length:=by show (Q7j p k).toArray.size=_; simp
 have e2:(J8g p k j).size=(Q7j p k ++ J3g (Q0n p k) j).length:=by show (Q7j p k ++ J3g (Q0n p k) j).toArray.size=_; simp
 have:=J7w (Q0n p k) j;rw [e,e2,List.length_append]; omega
theorem J7c (w:World) (v:Value) (p:List Rul) (hv:Q0w w v p) (he:Q6h p=0) :
    Calls Tryz.prog 84 #[v] w fun e w'=>e=.returned (.string (Z6l p)) /\ Ext w w':=by
 obtain ⟨a,rfl,h2⟩:=hv;obtain ⟨A,cap,rfl,hl,hcap,hc⟩:=h2.opened;have HC:=hid hc;have HE:=hid he;have HF:=hid (Y1x he).2;clear h2 hc he;obtain ⟨n,hn⟩:∃ n,p.length=n:=⟨_,rfl⟩;have HN:=hid hn;rw [hn] at hl HC ⊢;clear hn;go_enter Tryz.func84,Tryz.ntmps84;go_wp2_with fail;obtain ⟨W,hWW,k0,HXW,eW⟩:=Q1t w 47 #[.slice A n cap];rw [hWW];clear hWW;have K0:=hid k0;clear k0
 go_loopw [3,4] (fun c i wr=>∃ k:Nat,k <= n /\ i=.int .i64 k /\ c=.string (J7t p k) /\ Ext W wr) (fun _ i _=>n - (intOf i).toNat)
 case atStart=>exact ⟨0,Nat.zero_le _,rfl,by rw [J7s],Ext.refl _⟩
 case round =>
  obtain ⟨k,hk,rfl,rfl,hxr⟩:=hrel;have c0:=(K0.out.ext hxr).cell 0;simp only [Go.Tw.gA,Go.Tw.gB] at c0;have HXR:=hid hxr;have hsa:=J7q HE.out (k:=k) (by rw [HN.out]; exact hk)
  clear hxr
  by_cases hlt:k < n
  . have hkI:(k:Int) < n:=by omega
    obtain ⟨br,off,x,rfl,-,e0,e1,hx⟩:=HC.out k hlt;have hkp:k < p.length:=by rw [HN.out]; exact hlt
    have hfine:=HF.out _ (List.getElem_mem hkp);have hcl:(Q0n p k).length <= 6:=by unfold Q0n; rw [Q0v _ hkp]; exact hfine.len
    have HD:Hid (∀ x ∈ Q0n p k,0 <= x /\ x <= 9):=hid (by unfold Q0n; rw [Q0v _ hkp]; exact hfine.dig)
    obtain ⟨X,capx,rfl,-,-,hcx⟩:=hx.opened;have HCX:=hid hcx;have HE0:=hid e0;have HE1:=hid e1;have HSA:=hid (J7u hkp);have HS0:=hid (J7v p k);clear hx hcx e0 e1 hfine;obtain ⟨L,hL⟩:∃ L,(Q0n p k).length=L:=⟨_,rfl⟩;have HL:=hid hL;rw [hL] at HE0 HSA hcl HCX;clear hL
    go_light
    go_wp2
    go_loopw [3,5] (fun c i wq=>∃ j:Nat,j <= L /\ i=.int .i64 j /\ c=.string (J8g p k j) /\ Ext W wq) (fun _ i _=>L - (intOf i).toNat)
    case atStart=>exact ⟨0,Nat.zero_le _,rfl,by rw [HS0.out],HXR.out⟩
    case round =>
     obtain ⟨j,hj,rfl,rfl,hxq⟩:=hrel;have c0:=(K0.out.ext hxq).cell 0;simp only [Go.Tw.gA,Go.Tw.gB] at c0;have e0:=(HXW.out.trans hxq).cell HE0.out;have e1:=(HXW.out.trans hxq).cell HE1.out;have hst:=J8a p k j;have HXQ:=hid hxq
     by_cases hjl:j < L
     . have hjI:(j:Int) < L:=by omega
       obtain ⟨bx,ox,rfl,f0⟩:=HCX.out j hjl;replace f0:=(HXW.out.trans hxq).cell f0;have hjp:j < (Q0n p k).length:=by rw [HL.out]; exact hjl
       have hd:=HD.out (ix (Q0n p k) j) (by rw [Q4s hjp]; exact List.getElem_mem hjp)
       have HSS:=hid (J7x hjp hd.1 hd.2);obtain ⟨y,hy⟩:∃ y,ix (Q0n p k) j=y:=⟨_,rfl⟩;rw [hy] at f0 hd HSS;have his:=X1j hd.1 (by omega)
       have HDD:=hid hd;obtain ⟨c,hcc⟩:∃ c,J8g p k j=c:=⟨_,rfl⟩;rw [hcc] at hst HSS ⊢;obtain ⟨d,hdd⟩:∃ d,Q3x y=d:=⟨_,rfl⟩;rw [hdd] at his HSS;have HDI:=hid hdd;have g1:c.size + 1 <= 9223372036854775807:=by omega
       have g2:c.size + d.size <= 9223372036854775807:=by omega
       have g3:c.size + d.size + 1 <= 9223372036854775807:=by omega
       have g4:c.size + d.size <= 9223372036854775806:=by omega
       clear hy hcc hd hst hsa hxq hdd e1
       go_light
       go_wp2_with fail;refine (J8c _ y HDD.out.1 HDD.out.2).mono ?_;rw [HDI.out];rintro e w2 ⟨rfl,hx2⟩;have HX2:=hid (HXQ.out.trans hx2);clear hx2;go_wp2;go_roundw
       case rel=>exact ⟨j + 1,by omega,by go_num,by rw [HSS.out],HX2.out⟩
       case measure=>simp [intOf]; omega
     . have hjI:¬ (j:Int) < L:=by omega
       have hjL:j=L:=by omega
       subst hjL;obtain ⟨c,hcc⟩:∃ c,J8g p k j=c:=⟨_,rfl⟩;rw [hcc] at hst HSA ⊢;have g1:c.size <= 9223372036854775801:=by omega
       have g2:c.size + 6 <= 9223372036854775807:=by omega
       have g3:c.size + 5 <= 9223372036854775807:=by omega
       obtain ⟨cl,hcl2⟩:∃ c,Q3p p k=c:=⟨_,rfl⟩;rw [hcl2] at e1 HSA;clear hcc hst hsa hcl2 hxq;cases cl with
       | true =>
         go_wp2;go_roundw
         case rel=>exact ⟨k + 1,by omega,by go_num,by rw [HSA.out]; rfl,HXQ.out⟩
         case measure=>simp [intOf]; omega
       | false =>
         go_wp2;go_roundw
         case rel=>exact ⟨k + 1,by omega,by go_num,by rw [HSA.out]; rfl,HXQ.out⟩
         case measure=>simp [intOf]; omega
  . have hkI:¬ (k:Int) < n:=by omega
    have hkn:k=n:=by omega
    subst hkn;have HZ:Hid (J7t p k=Z6l p):=hid (by rw [<- J8l,HN.out])
    go_wp2;go_ret;exact ⟨by rw [<- HZ.out]; rfl,HXW.out.trans HXR.out⟩
end Go.Proofs
namespace Go.Proofs
open Go.RowKit Go.Tw Go.Flow
def dat (x:ByteArray):List UInt8:=x.data.toList
theorem J5n {a b:ByteArray} (h:dat a=dat b):a=b:=J6o h
theorem J2x (x:ByteArray):(dat x).length=x.size:=Array.length_toList
theorem J2z (c:UInt8) (s:ByteArray):(J2q c s).map dat=parts c (dat s):=by
 unfold J2q;rw [List.map_map];exact List.map_id _
def hdL (x:List UInt8):List (List UInt8) -> List (List UInt8)
 | []=>[x]
 | y :: r=>(x ++ y) :: r
def toB (l:List UInt8):ByteArray:=⟨l.toArray⟩
theorem J4w (s:ByteArray) (a b:Nat):s.extract a b=toB ((s.data.toList.drop a).take (b - a)):=by
 apply ByteArray.ext
 apply Array.toList_inj.1
 exact Lib.extract_data s a b
def J3s (c:UInt8) (s:ByteArray) (l:List ByteArray) (fr k:Nat):Prop :=
 fr <= k /\ l.length <= k /\ (k <= s.size -> J2q c s=l ++ (hdL ((s.data.toList.drop fr).take (k - fr)) (parts c (s.data.toList.drop k))).map toB) /\ (s.size < k -> l=J2q c s)
theorem J6c (c:UInt8) (s:ByteArray):J3s c s [] 0 0:=by
 refine ⟨Nat.le_refl _,Nat.le_refl _,fun _=>?_,fun h=>absurd h (Nat.not_lt_zero _)⟩;obtain ⟨x,r,hp⟩:=J2r c s.data.toList;unfold J2q;show _=[] ++ (hdL ((s.data.toList.drop 0).take 0) (parts c (s.data.toList.drop 0))).map toB;rw [List.drop_zero,hp];rfl
theorem J5v {s:ByteArray} {k:Nat} (h:k < s.size):s.data.toList.drop k=(s[k]'h) :: s.data.toList.drop (k + 1):=by
 rw [List.drop_eq_getElem_cons (by simpa using h)]
 rfl
theorem J7n {s:ByteArray} {f k:Nat} (h:k < s.size) (hf:f <= k):(s.data.toList.drop f).take (k + 1 - f)=(s.data.toList.drop f).take (k - f) ++ [s[k]'h]:=by
 rw [show k + 1 - f=(k - f) + 1 by omega,List.take_succ_eq_append_getElem (by simp; omega)]
 congr 2
 rw [List.getElem_drop];simp only [show f + (k - f)=k by omega]
 rfl
theorem J8k {c:UInt8} {s:ByteArray} {l:List ByteArray} {fr k:Nat} (h:J3s c s l fr k) (hk:k < s.size) (hc:s[k]'hk ≠ c):J3s c s l fr (k + 1):=by
 obtain ⟨h1,h2,h3,_⟩:=h;refine ⟨by omega,by omega,fun _=>?_,fun h=>by omega⟩
 rw [h3 (by omega)]
 congr 1
 obtain ⟨x,r,hp⟩:=J2r c (s.data.toList.drop (k + 1));rw [J5v hk,J3j hc hp,hp,J7n hk h1];show ((_ ++ _ :: x) :: r).map toB=((_ ++ x) :: r).map toB;rw [List.append_assoc]; rfl
theorem J8b {c:UInt8} {s:ByteArray} {l:List ByteArray} {fr k:Nat} (h:J3s c s l fr k) (hk:k < s.size) (hc:s[k]'hk=c):J3s c s (l ++ [s.extract fr k]) (k + 1) (k + 1):=by
 obtain ⟨h1,h2,h3,_⟩:=h;refine ⟨Nat.le_refl _,by simp; omega,fun _=>?_,fun h=>by omega⟩
 rw [h3 (by omega),J4w]
 obtain ⟨x,r,hp⟩:=J2r c (s.data.toList.drop (k + 1));rw [J5v hk,hc,parts_eq,hp,Nat.sub_self,List.append_assoc]
 congr 1
 show ((_ ++ []) :: x :: r).map toB=[_] ++ (([] ++ x) :: r).map toB;rw [List.append_nil]; rfl
theorem J7d {c:UInt8} {s:ByteArray} {l:List ByteArray} {fr k:Nat} (h:J3s c s l fr k) (hk:k=s.size):J3s c s (l ++ [s.extract fr k]) (k + 1) (k + 1):=by
 obtain ⟨h1,h2,h3,_⟩:=h;refine ⟨Nat.le_refl _,by simp; omega,fun _=>by omega,fun _=>?_⟩
 have e:s.data.toList.drop k=[]:=List.drop_eq_nil_of_le (by simp; omega)
 rw [h3 (by omega),J4w,e,J4v]
 congr 1
 show [_]=[toB (_ ++ [])];rw [List.append_nil]
theorem J5i (w:World) (s:ByteArray) (c:UInt8) (hs:s.size <= 5000) :
    Calls Tryz.prog 154 #[.string s,.int .u8 (c.toNat:Int)] w fun e w'=>∃ v,e=.returned v /\ Q0q w' w.heap.size 9 .string v (J2q c s) /\ Ext w w':=by
 obtain ⟨i0,hi,hz0,hz1,hz2⟩:=info_parts Tryz.X9e;go_enter Tryz.func154,Tryz.ntmps154;go_wp2
 go_loopw [5,6,7] (fun o f i wr=>∃ (k fr:Nat) (l:List ByteArray),k <= s.size + 1 /\ i=.int .i64 k /\ f=.int .i64 fr /\ J3s c s l fr k /\ Q0q wr w.heap.size 9 .string o l /\ Ext w wr) (fun _ _ i _=>s.size + 1 - (intOf i).toNat)
 case atStart=>exact ⟨0,0,[],Nat.zero_le _,rfl,rfl,J6c c s,Q0q.nil _ _ _ _,Ext.refl _⟩
 case round =>
  obtain ⟨k,fr,l,hk,rfl,rfl,hr,hown,hx⟩:=hrel;have HR:=hid hr;have hfr:=hr.1;have hll:l.length <= 5001:=by have:=hr.2.1; omega
  clear hr
  by_cases hlt:k < s.size
  . have hne:((k:Int) == (s.size:Int))=false:=by rw [beq_eq_false_iff_ne]; omega
    have hle:(k:Int) <= (s.size:Int):=by omega
    by_cases hc:s[k]'hlt=c
    . have hb:(((s[k]'hlt).toNat:Int) == (c.toNat:Int))=true:=by rw [hc]; exact beq_self_eq_true _
      have HN:=hid (J8b HR.out hlt hc);clear hc;go_wp2_with (at_builtin; refine wpList_append_own _ rfl _ _ 157 rfl (w.heap.size) 9 i0 (.string emp) 1 16 Tryz.underlying157 hi hz0 hz1 hz2 rfl (by decide) _ _ _ rfl (World.ownsRow.alloc hown _) ⟨wr.heap.size,0,none⟩ 1 1 [.string (s.extract fr k)] rfl rfl ?_ ?_ ?_ ?_ ?_ ?_; exact Q4p _ _ _; (focus (simp [Value.oneCell'])); (focus (unfold maxLen; omega)); (focus omega); (focus (have:=hx.size; simp at this ⊢; omega)); intro v' w1 hown' hgrow _)
      have hx':=Q2w hx hown (Nat.le_refl _) hgrow;go_wp2;go_roundw
      case rel=>exact ⟨k + 1,k + 1,_,by omega,by go_num,by go_num,HN.out,Q0q.snoc hown',hx'⟩
      case measure=>simp [intOf]; omega
    . have hb:(((s[k]'hlt).toNat:Int) == (c.toNat:Int))=false:=by
       rw [beq_eq_false_iff_ne];exact fun e=>hc (UInt8.toNat_inj.1 (by omega))
      have HN:=hid (J8k HR.out hlt hc);clear hc;go_wp2;go_roundw
      case rel=>exact ⟨k + 1,fr,l,by omega,by go_num,rfl,HN.out,hown,hx⟩
      case measure=>simp [intOf]; omega
  . by_cases he:k=s.size
    . have hne:((k:Int) == (s.size:Int))=true:=by rw [beq_iff_eq]; omega
      have hle:(k:Int) <= (s.size:Int):=by omega
      have HN:=hid (J7d HR.out he);have HK:=hid he;clear he;go_wp2_with (at_builtin; refine wpList_append_own _ rfl _ _ 157 rfl (w.heap.size) 9 i0 (.string emp) 1 16 Tryz.underlying157 hi hz0 hz1 hz2 rfl (by decide) _ _ _ rfl (World.ownsRow.alloc hown _) ⟨wr.heap.size,0,none⟩ 1 1 [.string (s.extract fr k)] rfl rfl ?_ ?_ ?_ ?_ ?_ ?_; exact Q4p _ _ _; (focus (simp [Value.oneCell'])); (focus (unfold maxLen; omega)); (focus omega); (focus (have:=hx.size; simp at this ⊢; omega)); intro v' w1 hown' hgrow _)
      have hx':=Q2w hx hown (Nat.le_refl _) hgrow;go_wp2;go_roundw
      case rel=>exact ⟨k + 1,k + 1,_,by have:=HK.out; omega,by go_num,by go_num,HN.out,Q0q.snoc hown',hx'⟩
      case measure=>simp [intOf]; omega
    . have hle:¬ (k:Int) <= (s.size:Int):=by omega
      have HE:=hid (HR.out.2.2.2 (by omega))
      clear he;go_wp2;go_ret;exact ⟨_,rfl,by rw [<- HE.out]; exact hown,hx⟩
def J3q:List (List UInt8) -> Option (List Int)
 | []=>some []
 | w :: r=>(J2t w).bind fun x=>(J3q r).map (x :: ·)
theorem J4t (x:List UInt8):∀ l,J3q (l ++ [x])=(J3q l).bind fun a=>(J2t x).map fun d=>a ++ [d]
 | []=>by cases h:J2t x <;> simp [J3q,h]
 | w :: r=>by
   rw [List.cons_append,J3q,J3q,J4t x r];cases J2t w <;> cases J3q r <;> cases J2t x <;> rfl
theorem J6n:∀ {l:List (List UInt8)} {a:List Int},J3q l=some a -> a.length=l.length
 | [],a,h=>by cases h; rfl
 | w :: r,a,h=>by
   rw [J3q] at h;cases hw:J2t w with
   | none=>rw [hw] at h; cases h
   | some x =>
     cases hr:J3q r with
     | none=>rw [hw,hr] at h; cases h
     | some b=>rw [hw,hr] at h; cases h; rw [List.length_cons,List.length_cons,J6n hr]
def endOf (e:List UInt8):Option Bool:=if e=J0g then some true else if e=J0z then some false else none
theorem J3d (e:List UInt8):∀ l,J2m (l ++ [e])=(J3q l).bind fun a=>(endOf e).map fun c=>⟨a,c⟩
 | []=>by
   show J2m [e]=_;unfold J2m endOf J3q
   by_cases h1:e=J0g
   . rw [if_pos h1,if_pos h1]; rfl
   . rw [if_neg h1,if_neg h1]
     by_cases h2:e=J0z
     . rw [if_pos h2,if_pos h2]; rfl
     . rw [if_neg h2,if_neg h2]; rfl
 | w :: l=>by
   have ih:=J3d e l;obtain ⟨v,r,hv⟩:∃ v r,l ++ [e]=v :: r:=by cases l with | nil=>exact ⟨_,_,rfl⟩ | cons a b=>exact ⟨_,_,rfl⟩
   rw [List.cons_append,hv,J2m,<- hv,ih,J3q];cases J2t w <;> cases J3q l <;> cases endOf e <;> rfl
theorem J6x {l:List (List UInt8)} {N:Nat} (h:l.length=N + 1):l=l.take N ++ [l.getD N []]:=by
 have hN:N < l.length:=by omega
 have e:=List.take_succ_eq_append_getElem hN;rw [List.take_of_length_le (by omega)] at e
 rw [List.getD_eq_getElem?_getD,List.getElem?_eq_getElem hN];exact e
theorem J8n {s:ByteArray} (h:s.size ≠ 1):J2t (dat s)=none:=by
 have hl:=J2x s
 match hd:dat s with
 | []=>rfl
 | [b]=>rw [hd] at hl; exact absurd hl.symm h
 | _ :: _ :: _=>rfl
theorem J8z {s:ByteArray} (h:s.size=1):dat s=[s[0]'(by omega)]:=by
 have hl:=J2x s;rw [h] at hl
 match hd:dat s with
 | [b] =>
   have e:(dat s)[0]'(by rw [hl]; omega)=b:=by simp only [hd]; rfl
   rw [<- e]; rfl
 | []=>rw [hd] at hl; cases hl
 | _ :: _ :: _=>rw [hd] at hl; simp at hl
theorem J7m {s:ByteArray} (h:s.size=1):J2t (dat s)=if 48 <= (s[0]'(by omega)).toNat /\ (s[0]'(by omega)).toNat <= 57 then some (((s[0]'(by omega)).toNat:Int) - 48) else none:=by
 rw [J8z h]; rfl
end Go.Proofs
