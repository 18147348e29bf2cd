/- Contracts of library functions at this program: each says what the call returns, for all arguments that it names. -/
import Derived.Test.YthnobngcipaljaaGreatDoorPp35
import Derived.Laws.IdiomStrings
import Derived.Laws.DeepStrings4
set_option maxRecDepth 1000000
set_option maxHeartbeats 64000000
set_option linter.unusedVariables false
set_option linter.unusedSimpArgs false
set_option linter.constructorNameAsVariable false
open Go.Lib (hid)
namespace Go.Proofs
open Go.Shelf
open Go.RowKit Go.Lib in
def Tryz.J8q:Go.Shelf.Ren:=⟨fun | 145=>151 | 220=>181 | 219=>194 | 217=>218 | 225=>219 | 224=>220 | 267=>221 | 266=>242 | 314=>243 | n=>n,fun | 9=>9 | 4=>4 | 59=>224 | 3=>3 | 5=>5 | 46=>262 | 146=>313 | 51=>285 | n=>n,fun | 1=>1 | n=>n⟩
theorem Tryz.lays145:Go.Proofs.Lays.n145 Tryz.prog Tryz.J8q:={
 mixed:=by kernel_rfl
 f145:=Tryz.func151.trans (congrArg some (by kernel_rfl))
 f217:=Tryz.func218.trans (congrArg some (by kernel_rfl))
 f219:=Tryz.func194.trans (congrArg some (by kernel_rfl))
 f220:=Tryz.func181.trans (congrArg some (by kernel_rfl))
 f224:=Tryz.func220.trans (congrArg some (by kernel_rfl))
 f225:=Tryz.func219.trans (congrArg some (by kernel_rfl))
 f266:=Tryz.func242.trans (congrArg some (by kernel_rfl))
 f267:=Tryz.func221.trans (congrArg some (by kernel_rfl))
 f314:=Tryz.func243.trans (congrArg some (by kernel_rfl))
 t3:=Tryz.underlying3
 a3:=Tryz.isAgg3
 z3:=Tryz.sizeOf3
 v3:=Tryz.zeroValue3
 t4:=Tryz.underlying4
 a4:=Tryz.isAgg4
 z4:=Tryz.sizeOf4
 v4:=Tryz.zeroValue4
 t5:=Tryz.underlying5
 a5:=Tryz.isAgg5
 z5:=Tryz.sizeOf5
 v5:=Tryz.zeroValue5
 t9:=Tryz.underlying9
 a9:=Tryz.isAgg9
 z9:=Tryz.sizeOf9
 v9:=Tryz.zeroValue9
 t46:=Tryz.underlying262
 a46:=Tryz.isAgg262
 z46:=Tryz.sizeOf262
 v46:=Tryz.zeroValue262
 t51:=Tryz.underlying285
 a51:=Tryz.isAgg285
 z51:=Tryz.sizeOf285
 v51:=Tryz.zeroValue285
 t59:=Tryz.underlying224
 a59:=Tryz.isAgg224
 z59:=Tryz.sizeOf224
 v59:=Tryz.zeroValue224
 t146:=Tryz.underlying313
 a146:=Tryz.isAgg313
 z146:=Tryz.sizeOf313
 v146:=Tryz.zeroValue313
 g1:=by kernel_rfl }
open Go.RowKit Go.Lib in
theorem Tryz.strings_Cut (s sep:ByteArray) (m:Int) (w:World) (hs:s.size < 4294967281) (hm:w.cell? ⟨1,0,none⟩=some (.int .i64 m)) :
    Calls Tryz.prog 151 #[.string s,.string sep] w fun e w'=>e=.returned (.tuple #[.string ⟨(Lib.cut s.data.toList sep.data.toList).1.toArray⟩,.string ⟨(Lib.cut s.data.toList sep.data.toList).2.1.toArray⟩,.bool (Lib.cut s.data.toList sep.data.toList).2.2]) /\ ∃ n,w'=w.drewN n:=Any.strings_Cut Tryz.lays145 s sep m w hs hm
open Go.RowKit Go.Lib in
def Tryz.lays146_ren:Go.Shelf.Ren:=⟨fun | 146=>182 | 221=>195 | 268=>222 | 138=>223 | 143=>224 | 195=>244 | 197=>245 | 218=>246 | 219=>194 | 260=>251 | 217=>218 | 225=>219 | 224=>220 | 267=>221 | 266=>242 | 314=>243 | n=>n,fun | 9=>9 | 31=>157 | 3=>3 | 4=>4 | 0=>0 | 105=>316 | 21=>21 | 5=>5 | 46=>262 | 119=>323 | 139=>326 | 138=>325 | 146=>313 | 51=>285 | n=>n,fun | 1=>1 | 3=>5 | 4=>6 | n=>n⟩
theorem Tryz.lays146:Go.Proofs.Lays.n146 Tryz.prog Tryz.lays146_ren:={
 mixed:=by kernel_rfl
 f138:=Tryz.func223.trans (congrArg some (by kernel_rfl))
 f143:=Tryz.func224.trans (congrArg some (by kernel_rfl))
 f146:=Tryz.func182.trans (congrArg some (by kernel_rfl))
 f195:=Tryz.func244.trans (congrArg some (by kernel_rfl))
 f197:=Tryz.func245.trans (congrArg some (by kernel_rfl))
 f217:=Tryz.func218.trans (congrArg some (by kernel_rfl))
 f218:=Tryz.func246.trans (congrArg some (by kernel_rfl))
 f219:=Tryz.func194.trans (congrArg some (by kernel_rfl))
 f221:=Tryz.func195.trans (congrArg some (by kernel_rfl))
 f224:=Tryz.func220.trans (congrArg some (by kernel_rfl))
 f225:=Tryz.func219.trans (congrArg some (by kernel_rfl))
 f260:=Tryz.func251.trans (congrArg some (by kernel_rfl))
 f266:=Tryz.func242.trans (congrArg some (by kernel_rfl))
 f267:=Tryz.func221.trans (congrArg some (by kernel_rfl))
 f268:=Tryz.func222.trans (congrArg some (by kernel_rfl))
 f314:=Tryz.func243.trans (congrArg some (by kernel_rfl))
 t0:=Tryz.underlying0
 a0:=Tryz.isAgg0
 z0:=Tryz.sizeOf0
 v0:=Tryz.zeroValue0
 t3:=Tryz.underlying3
 a3:=Tryz.isAgg3
 z3:=Tryz.sizeOf3
 v3:=Tryz.zeroValue3
 t4:=Tryz.underlying4
 a4:=Tryz.isAgg4
 z4:=Tryz.sizeOf4
 v4:=Tryz.zeroValue4
 t5:=Tryz.underlying5
 a5:=Tryz.isAgg5
 z5:=Tryz.sizeOf5
 v5:=Tryz.zeroValue5
 t9:=Tryz.underlying9
 a9:=Tryz.isAgg9
 z9:=Tryz.sizeOf9
 v9:=Tryz.zeroValue9
 t21:=Tryz.underlying21
 a21:=Tryz.isAgg21
 z21:=Tryz.sizeOf21
 v21:=Tryz.zeroValue21
 t31:=Tryz.underlying157
 a31:=Tryz.isAgg157
 z31:=Tryz.sizeOf157
 v31:=Tryz.zeroValue157
 t46:=Tryz.underlying262
 a46:=Tryz.isAgg262
 z46:=Tryz.sizeOf262
 v46:=Tryz.zeroValue262
 t51:=Tryz.underlying285
 a51:=Tryz.isAgg285
 z51:=Tryz.sizeOf285
 v51:=Tryz.zeroValue285
 t105:=Tryz.underlying316
 a105:=Tryz.isAgg316
 z105:=Tryz.sizeOf316
 v105:=Tryz.zeroValue316
 t119:=Tryz.underlying323
 a119:=Tryz.isAgg323
 z119:=Tryz.sizeOf323
 t138:=Tryz.underlying325
 a138:=Tryz.isAgg325
 z138:=Tryz.sizeOf325
 v138:=Tryz.zeroValue325
 t139:=Tryz.underlying326
 a139:=Tryz.isAgg326
 z139:=Tryz.sizeOf326
 v139:=Tryz.zeroValue326
 t146:=Tryz.underlying313
 a146:=Tryz.isAgg313
 z146:=Tryz.sizeOf313
 v146:=Tryz.zeroValue313
 g1:=by kernel_rfl
 g3:=by kernel_rfl
 g4:=by kernel_rfl }
open Go.RowKit Go.Lib in
theorem Tryz.strings_Split (s sep:ByteArray) (m:Int) (w:World) (hs:s.size < 4294967281) (hm:w.cell? ⟨1,0,none⟩=some (.int .i64 m)) (h1:1 <= sep.size) :
    Calls Tryz.prog 182 #[.string s,.string sep] w fun e w' =>
     e=.returned (.slice (some ⟨w.heap.size,0,none⟩) (Lib.countB s sep + 1) (Lib.countB s sep + 1)) /\ w'=w.alloc (.cells ((Lib.splitB sep 0 (Lib.countB s sep) s).map Value.string).toArray 9):=Any.strings_Split Tryz.lays146 (by kernel_rfl) s sep m w hs hm h1
end Go.Proofs
namespace Go.Tw
open Go.RowKit Go.Flow
theorem J2v {α:Type} {P:Program} {K:Value -> World -> Prop} {o:Oper} {a:Act} {w:World} (s x:Operand) (t:TypeId) (ho:o.op=.call { callee:=.builtin .append,args:=#[s,x],argTypes:=#[t,t] })
    (base:Nat) (e:TypeId) (i:TypeInfo) (z:Value) (bytes:Nat) (ht:P.underlying t=some (.slice e)) (hi:P.info? e=some i) (hz:i.zero=some z) (hsize:i.size=1) (hby:i.bytes=bytes) (hzs:z.cells.size=1)
    (enc:α -> Value) (v src:Value) (ys:List α) (hs:a.eval s=v) (hv:∃ g,v=.slice (some ⟨g,0,none⟩) 0 0 /\ base <= g /\ w.heap[g]?=some (.cells #[] e (0,0))) (hx:a.eval x=src) (hsrc:Src w enc src ys) (h1:∀ y ∈ ys,(enc y).oneCell'=true)
    (h63:ys.length <= 4398046511104) (hb:bytes <= 32) (hbase:base <= w.heap.size)
    (h:∀ v' w',Q0q w' base e enc v' ys -> Ext w w' -> K v' w'):gives P K ((execOp a.eval o).run P w):=by
 obtain ⟨g,rfl,hbg,hg⟩:=hv;have hown:Q0q w base e enc (.slice (some ⟨g,0,none⟩) 0 0) ([]:List α):=⟨by simp,.inr ⟨g,0,#[],rfl,hbg,hg,Nat.le_refl _,Nat.zero_le _,rfl,by simp⟩⟩
 obtain ⟨A,c,rfl,hc⟩:=hsrc;cases ys with
 | nil =>
   unfold execOp;simp only [ho,resolve,invoke,builtin,Sem.run_bind,Sem.run_pure,Result.andThen_ok,List.map_toArray,List.map_cons,List.map_nil,hs,hx];rw [List.length_nil,Q7q (P:=P) w t o.type e i ht hi _ A 0 0 c (Nat.le_refl _)];exact h _ _ hown (Ext.refl _)
 | cons y ys =>
   obtain ⟨b0,off0,rfl,_⟩:=hc 0 (by simp)
   have hnews:∀ j u,((y :: ys).map enc)[j]?=some u -> w.cell? ((⟨b0,off0,none⟩:Addr).add j)=some u:=fun j u hu=>by
    rw [List.getElem?_map] at hu
    rcases Nat.lt_or_ge j (y :: ys).length with hj | hj
    . rw [List.getElem?_eq_getElem hj] at hu
      simp only [Option.map_some,Option.some.injEq] at hu;obtain ⟨b',off',hA,hcell⟩:=hc j hj;cases hA;rw [<- hu,addr_add]; exact hcell
    . rw [List.getElem?_eq_none hj] at hu; cases hu
   have hbytes:(y :: ys).length * bytes <= 140737488355328:=by
    have:(y :: ys).length * bytes <= 4398046511104 * 32:=Nat.mul_le_mul h63 hb;omega
   obtain ⟨v',w',hr,h2,h3,h4⟩:=run_append_own (P:=P) w base t o.type e i z 1 bytes ht hi hz hsize hby hzs (by decide) _ 0 (([]:List α).map enc) hown ⟨b0,off0,none⟩ (y :: ys).length c ((y :: ys).map enc) (by simp) hnews (fun u hu=>by obtain ⟨y,hy,rfl⟩:=List.mem_map.1 hu; exact h1 y hy) (by unfold maxLen; omega) (by rw [Nat.zero_add]; exact hbytes) hbase
   have hgr:=run_append_grow (P:=P) w t o.type e i z ht hi hz ⟨g,0,none⟩ 0 0 [] (by simp) (by simp) ⟨b0,off0,none⟩ (y :: ys).length c ((y :: ys).map enc) (by rw [hsize]; simp) hnews (by simp) (by simp only [List.length_cons] at h63 ⊢; omega) (by rw [hby]; exact growslice_fits (by simp) (by rw [Nat.zero_add]; exact hbytes))
   rw [hr] at hgr;injection hgr with hv' hw';unfold execOp;simp only [ho,resolve,invoke,builtin,Sem.run_bind,Sem.run_pure,Result.andThen_ok,List.map_toArray,List.map_cons,List.map_nil,hs,hx,hr];refine h v' w' ?_ (by rw [hw']; exact ((Ext.refl w).drew).alloc _)
   unfold Q0q
   simpa using h2
end Go.Tw
namespace Go.Proofs
open Go.RowKit Go.Tw
theorem J3l (w:World) (v:Value) (l:List Int) (x:Int) (hv:Q0d w v l) :
    Calls Tryz.prog 40 #[v,.int .i64 x] w fun e w'=>e=.returned (.bool (has l x)) /\ w=w':=by
 obtain ⟨A,cap,rfl,hl,hcap,hc⟩:=hv.opened;clear hv;go_enter Tryz.func40,Tryz.ntmps40;go_wp2
 go_loop [5] (fun i=>∃ k:Nat,k <= l.length /\ i=.int .i64 k /\ has (l.drop k) x=has l x) (fun i=>l.length - (intOf i).toNat)
 case atStart=>exact ⟨0,Nat.zero_le _,rfl,rfl⟩
 case round =>
  obtain ⟨k,hk,rfl,hr⟩:=hrel;have HR:=hid hr; clear hr
  by_cases hlt:k < l.length
  . obtain ⟨b,off,rfl,hcell⟩:=hc k hlt
    clear hc
    by_cases hx:ix l k=x
    . have HX:=hid hx
      have hx1:(ix l k == x)=true:=by simp [hx]
      clear hx;go_wp2;go_ret;exact ⟨Q0u (by rw [<- HR.out,Q3b hlt,Y7j,HX.out]; simp),rfl⟩
    . have hx1:(ix l k == x)=false:=by simp [hx]
      have HX:=hid hx; clear hx;go_wp2;go_round
      case rel=>exact ⟨k + 1,by omega,by go_num,by rw [<- HR.out,Q3b hlt,Y7j,beq_false_of_ne HX.out,Bool.false_or]⟩
      case measure=>simp [intOf]; omega
  . clear hc
    go_wp2;go_ret;exact ⟨Q0u (by rw [<- HR.out,List.drop_eq_nil_of_le (by omega)]; rfl),rfl⟩
end Go.Proofs
namespace Go.Tw
namespace Q0b
end Q0b
namespace Q0b
end Q0b
def always (s:Q0b) (c:Bool):List Rul:=s.hist.map fun h=>⟨h,c⟩
def J7k (p:List Rul) (n:Nat):List Rul:=(List.range p.length).map fun i=>⟨Q0n p i,Q3p p i != (i == n)⟩
namespace Mem
end Mem
namespace Mem
end Mem
end Go.Tw
namespace Go.Tw
theorem J3m {α:Type} (g:α -> Int) (p:α -> Bool):∀ l:List α,(l.map g).sum=((l.filter p).map g).sum + ((l.filter fun x=>!p x).map g).sum
 | []=>rfl
 | x :: l=>by
   rw [List.map_cons,List.sum_cons,J3m g p l];cases h:p x
   . simp only [List.filter_cons,h,Bool.not_false,if_true,Bool.false_eq_true,if_false,List.map_cons,List.sum_cons]; omega
   . simp only [List.filter_cons,h,Bool.not_true,if_true,Bool.false_eq_true,if_false,List.map_cons,List.sum_cons]; omega
end Go.Tw
namespace Go.Proofs
open Go.RowKit Go.Tw Go.Flow
theorem K0q {a b:List Int} {k:Nat} (ha:k < a.length) (hb:k < b.length):Q5y (a.drop k) (b.drop k)=if ix a k=ix b k then Q5y (a.drop (k + 1)) (b.drop (k + 1)) else decide (ix a k < ix b k):=by
 rw [Q3b ha,Q3b hb]; rfl
theorem J4j (w:World) (u v:Value) (l m:List Int) (hu:Q0d w u l) (hv:Q0d w v m) (hlen:l.length=m.length) :
    Calls Tryz.prog 117 #[u,v] w fun e w'=>e=.returned (.bool (Q5y l m)) /\ Ext w w':=by
 obtain ⟨A,cap,rfl,hl,hcap,hc⟩:=hu.opened;obtain ⟨A',cap',rfl,hl',hcap',hc'⟩:=hv.opened;clear hu hv;have i0:l.length <= m.length:=by omega
 have HLEN:=hid hlen; clear hlen;go_enter Tryz.func117,Tryz.ntmps117;go_wp2
 go_loopw [5] (fun i wr=>∃ k:Nat,k <= l.length /\ i=.int .i64 k /\ Q5y (l.drop k) (m.drop k)=Q5y l m /\ Ext w wr) (fun i _=>l.length - (intOf i).toNat)
 case atStart=>exact ⟨0,Nat.zero_le _,rfl,rfl,Ext.refl _⟩
 case round =>
  obtain ⟨k,hk,rfl,hr,hx⟩:=hrel;have HR:=hid hr; clear hr
  by_cases hlt:k < l.length
  . obtain ⟨b,off,rfl,hcell⟩:=hc k hlt
    obtain ⟨b',off',rfl,hcell'⟩:=hc' k (by omega)
    replace hcell:=hx.cell hcell;replace hcell':=hx.cell hcell';clear hc hc';have i1:(k:Int) < l.length:=by omega
    have i2:(k:Int) < m.length:=by omega
    have hst:=K0q hlt (show k < m.length by omega)
    have HST:=hid hst; clear hst
    by_cases hx0:ix l k=ix m k
    . have hx1:(ix l k != ix m k)=false:=by simp [hx0]
      have HX:=hid hx0; clear hx0;go_wp2
      go_quiet (fail)
      all_goals go_wp2
      go_roundw
      case rel=>exact ⟨k + 1,by omega,by go_num,by rw [<- HR.out,HST.out,if_pos HX.out],hx.drewN _⟩
      case measure=>simp [intOf]; omega
    . have hx1:(ix l k != ix m k)=true:=by simp [hx0]
      have HX:=hid hx0; clear hx0;go_wp2
      go_quiet (fail)
      all_goals go_wp2
      go_quiet (fail)
      all_goals go_wp2
      go_ret;exact ⟨Q0u (by rw [<- HR.out,HST.out,if_neg HX.out]),(hx.drewN _).drewN _⟩
  . clear hc hc'
    go_wp2;go_ret;exact ⟨Q0u (by rw [<- HR.out,List.drop_eq_nil_of_le (by omega)]; rfl),hx⟩
end Go.Proofs
namespace Go.Tw
theorem K2u {n:Nat} (h:n < 62):IntKind.i64.wrap ((2:Int) ^ min n 64)=((2 ^ n:Nat):Int):=by
 rw [show min n 64=n from by omega,Q2v _ (Int.le_of_lt (Int.pow_pos (by omega))) (by have:(2:Nat) ^ n < 2 ^ 62:=Nat.pow_lt_pow_right (by omega) h; exact_mod_cast this)]
 simp
end Go.Tw
namespace Go.Proofs
open Go.RowKit Go.Tw Go.Flow
def J9o (lim:Int) (l:List Int):Bool:=!(l.any fun x=>decide (lim < x))
theorem J7r (m:Mem) (lim:Int) (c:List Bool):m.keeps lim c=J9o lim (m.X3n c):=rfl
end Go.Proofs
namespace Go.Tw
variable {s:Q0b}
def J2k (s:Q0b) (n:Nat):List Rul:=(List.range s.hist.length).map fun i=>⟨s.hist.getD i [],n.testBit i⟩
theorem J5k:∀ (m:Nat) (g:Nat -> Bool),∃ n,n < 2 ^ m /\ ∀ i,i < m -> n.testBit i=g i
 | 0,_=>⟨0,by decide,fun i h=>absurd h (Nat.not_lt_zero _)⟩
 | m + 1,g=>by
   obtain ⟨n,hn,h⟩:=J5k m g;cases hg:g m
   . refine ⟨n,by rw [Nat.pow_succ]; omega,fun i hi=>?_⟩
     by_cases e:i=m
     . subst e; rw [hg,Nat.testBit_lt_two_pow hn]
     . exact h i (by omega)
   . refine ⟨2 ^ m + n,by rw [Nat.pow_succ]; omega,fun i hi=>?_⟩
     by_cases e:i=m
     . subst e; rw [hg,Nat.testBit_two_pow_add_eq,Nat.testBit_lt_two_pow hn]; rfl
     . rw [Nat.testBit_two_pow_add_gt (by omega)]; exact h i (by omega)
end Go.Tw
namespace Go.Tw
variable {s:Q0b}
theorem J3w:∀ l:List Bool,∃ n,n < 2 ^ l.length /\ Q5u n l.length=l:=by
 intro l;obtain ⟨n,hn,h⟩:=J5k l.length fun i=>l.getD (l.length - 1 - i) false
 refine ⟨n,hn,?_⟩;unfold Q5u
 apply List.ext_getElem (by simp)
 intro i h1 h2;simp only [List.getElem_map,List.getElem_range];rw [h _ (by omega),Q0v _ (by omega)]
 congr 1
 omega
end Go.Tw
namespace Go.Tw
variable {s:Q0b}
theorem J4t (m:Mem) (lim:Int) (t:Nat):∀ n,(∀ b,m.Q3n lim t n=some b -> m.keeps lim b=true /\ (∃ k,k < n /\ b=Q5u k t /\ ∀ j,j < n -> m.keeps lim (Q5u j t)=true -> countB b <= countB (Q5u j t) /\ (countB b=countB (Q5u j t) -> k <= j))) /\
    (m.Q3n lim t n=none -> ∀ j,j < n -> m.keeps lim (Q5u j t)=false)
 | 0=>⟨fun b h=>(by cases h),fun _ j h=>absurd h (Nat.not_lt_zero _)⟩
 | n + 1=>by
   obtain ⟨h1,h2⟩:=J4t m lim t n;rw [Mem.Q3n]
   by_cases hc:m.keeps lim (Q5u n t)=true /\ (∀ b,m.Q3n lim t n=some b -> countB (Q5u n t) < countB b)
   . rw [if_pos hc]
     refine ⟨fun b hb=>?_,fun h=>by cases h⟩
     cases hb;refine ⟨hc.1,n,Nat.lt_succ_self _,rfl,fun j hj hk=>?_⟩
     by_cases e:j=n
     . subst e; exact ⟨Int.le_refl _,fun _=>Nat.le_refl _⟩
     . cases ha:m.Q3n lim t n with
       | none=>rw [h2 ha j (by omega)] at hk; cases hk
       | some b =>
         have h3:=hc.2 b ha;obtain ⟨-,k,-,-,h4⟩:=h1 b ha;have h5:=(h4 j (by omega) hk).1
         exact ⟨by omega,fun e'=>by omega⟩
   . rw [if_neg hc]
     refine ⟨fun b hb=>?_,fun hn j hj=>?_⟩
     . obtain ⟨k1,k,k2,k3,k4⟩:=h1 b hb
       refine ⟨k1,k,by omega,k3,fun j hj hk=>?_⟩
       by_cases e:j=n
       . subst e
         have:¬ countB (Q5u j t) < countB b:=fun hlt=>hc ⟨hk,fun b' hb'=>by rw [hb] at hb'; cases hb'; exact hlt⟩
         exact ⟨by omega,fun _=>by omega⟩
       . exact k4 j (by omega) hk
     . by_cases e:j=n
       . subst e
         rw [<- Bool.not_eq_true];intro hk;exact hc ⟨hk,fun b' hb'=>by rw [hn] at hb'; cases hb'⟩
       . exact h2 hn j (by omega)
theorem J3b {i:Nat} {b:List Bool} (h:alone s i=some b):b.length=s.ships.length /\ (Q2e s i).keeps s.limit b=true /\
    ∀ c:List Bool,c.length=s.ships.length -> (Q2e s i).keeps s.limit c=true -> countB b <= countB c:=by
 obtain ⟨h1,k,hk,e,h2⟩:=(J4t _ _ _ _).1 b h;refine ⟨by rw [e,X3w],h1,fun c hc hkc=>?_⟩
 obtain ⟨n,hn,e'⟩:=J3w c;rw [hc] at hn e';rw [<- e']; exact (h2 n hn (by rw [e']; exact hkc)).1
theorem J6m {i:Nat} (h:alone s i=none) (c:List Bool) (hc:c.length=s.ships.length):(Q2e s i).keeps s.limit c=false:=by
 obtain ⟨n,hn,e'⟩:=J3w c;rw [hc] at hn e';rw [<- e']; exact (J4t _ _ _ _).2 h n hn
end Go.Tw
namespace Go.Proofs
open Go.RowKit Go.Tw Go.Flow
theorem K2j {s:Q0b} (hS:Q1b s) {p:List Rul} (hp:Q2d s.hist p=0):p.length <= 48:=by
 have:=Z5n hS;rw [<- Q4h.1 hp,List.length_map] at this;exact this
theorem Tryz.K0b (w:World):(isAgg 25).run Tryz.prog w=.ok true w:=by kernel_rfl
theorem Tryz.J8l (w:World):(sizeOf 25).run Tryz.prog w=.ok 3 w:=by kernel_rfl
attribute [local go_sem ↓] X3l
end Go.Proofs
namespace Go.Proofs
open Go.RowKit Go.Tw Go.Flow
theorem J6w {K:Value -> World -> Prop} {o:Oper} {a:Act} {w:World} (x:Operand) (t e:TypeId) (ho:o.op=.makeSlice t x x) (i:TypeInfo) (z:Value) (k bytes:Nat) (ht:Tryz.prog.underlying t=some (.slice e)) (hi:Tryz.prog.info? e=some i) (hz:i.zero=some z) (hs:i.size=k) (hby:i.bytes=bytes)
    (n:Nat) (hx:a.eval x=.int .i64 n) (hn:n <= 1000) (hb:bytes <= 1000)
    (h:K (.slice (some ⟨w.heap.size,0,none⟩) n n) (w.alloc (.cells (madeCells z.cells (n * k)) e))):gives Tryz.prog K ((execOp a.eval o).run Tryz.prog w):=by
 have hnb:bytes * n <= 1000 * 1000:=Nat.mul_le_mul hb hn;have hr:=run_make (P:=Tryz.prog) w t e i z ht hi hz .i64 .i64 n n (by omega) (Int.le_refl _) (by rw [hby]; have:((bytes * n:Nat):Int) <= 1000000:=(by omega); rw [Int.natCast_mul] at this; omega) (by omega)
 simp only [Int.toNat_natCast,hs] at hr;unfold execOp;simp only [ho,hx,Sem.run_bind,hr,Result.andThen_ok,Sem.run_pure];exact h
end Go.Proofs
namespace Go.Proofs
open Go.RowKit Go.Tw Go.Flow
def codeF (n T k i:Nat):Bool:=if T - k <= i then n.testBit (T - 1 - i) else false
def codeCells (n T k:Nat):Array Value:=((List.range T).map fun i=>Value.bool (codeF n T k i)).toArray
theorem J2z (n T k:Nat):(codeCells n T k).size=T:=by simp [codeCells]
theorem J6j (n T:Nat):madeCells #[.bool false] (T * 1)=codeCells n T 0:=by
 apply Array.ext_getElem?
 intro i
 by_cases hi:i < T
 . rw [Array.getElem?_eq_getElem (by rw [size_madeCells]; omega),Array.getElem?_eq_getElem (by rw [J2z]; exact hi)]
   unfold madeCells codeCells codeF;simp [hi,Nat.mod_one];omega
 . rw [Array.getElem?_eq_none (by rw [size_madeCells]; omega),Array.getElem?_eq_none (by rw [J2z]; omega)]
theorem J7s {w:World} {g:Nat} {T:TypeId} {l:List Bool} (h:Blk w g T (l.map Value.bool).toArray) (hl:l.length <= 1000):Q1q w (.slice (some ⟨g,0,none⟩) l.length l.length) l:=by
 refine ⟨fun j=>.bool (l.getD j false),⟨some ⟨g,0,none⟩,l.length,rfl,by omega,Nat.le_refl _,fun j hj=>⟨g,0,rfl,?_⟩⟩,fun j hj=>?_⟩
 . have hj':j < l.length:=by omega
   rw [h.cell]; simp [hj']
 . simp [hj]
theorem J8y (n k:Nat):(((n / 2 ^ k:Nat):Int).tmod 2 == 1)=n.testBit k:=by
 rw [Nat.testBit_eq_decide_div_mod_eq,show ((n / 2 ^ k:Nat):Int).tmod 2=((n / 2 ^ k % 2:Nat):Int) from (Int.ofNat_tmod _ 2).symm]
 by_cases h:n / 2 ^ k % 2=1
 . rw [h]; rfl
 . rw [decide_eq_false h,beq_eq_false_iff_ne]; omega
theorem K0w (n k:Nat):((n / 2 ^ k:Nat):Int).tdiv 2=((n / 2 ^ (k + 1):Nat):Int):=by
 rw [show ((n / 2 ^ k:Nat):Int).tdiv 2=((n / 2 ^ k / 2:Nat):Int) from (Int.ofNat_tdiv _ 2).symm,Nat.div_div_eq_div_mul,<- Nat.pow_succ]
end Go.Proofs
namespace Go.Tw
open Go.RowKit Go.Flow
theorem J5c {α:Type} (x d:α):∀ (n:Nat) (xs:List α) (i:Nat),n <= xs.length -> (xs.take n ++ [x] ++ xs.drop n).getD i d=if i < n then xs.getD i d else if i=n then x else xs.getD (i - 1) d
 | 0,xs,i,_=>by cases i <;> simp
 | n + 1,[],i,h=>by simp at h
 | n + 1,y :: ys,0,_=>by simp
 | n + 1,y :: ys,i + 1,h=>by
   have:=J5c x d n ys i (by simpa using h)
   simp only [List.take_succ_cons,List.drop_succ_cons,List.cons_append,List.getD_cons_succ,this]
   by_cases h1:i < n
   . have h1':i + 1 < n + 1:=by omega
     simp only [h1,h1',if_true]
   . have h1':¬ (i + 1 < n + 1):=by omega
     by_cases h2:i=n
     . subst h2
       simp
     . have h2':¬ (i + 1=n + 1):=by omega
       obtain ⟨m,rfl⟩:∃ m,i=m + 1:=⟨i - 1,by omega⟩
       simp only [h1,h1',h2,h2',if_false];simp
theorem Reads.insert {w:World} {vs:List Value} {ll:List (List Int)} {v:Value} {l:List Int} {n:Nat} (h:Reads w vs ll) (hv:Q0d w v l) (hn:n <= ll.length):Reads w (vs.take n ++ [v] ++ vs.drop n) (ll.take n ++ [l] ++ ll.drop n):=by
 have hl:=h.1;refine ⟨by simp [hl],fun i hi=>?_⟩
 rw [J5c _ _ _ _ _ (by omega),J5c _ _ _ _ _ hn]
 simp only [List.length_append,List.length_take,List.length_drop,List.length_singleton] at hi
 split
 . exact h.2 i (by omega)
 . split
   . exact hv
   . exact h.2 (i - 1) (by omega)
theorem J5o {w w1 w2:World} (hx:Ext w.drew w1) (hb:Below w.heap.size w1 w2):Ext w w2:=Below.trans (((Ext.refl w).drew).trans hx) hb
end Go.Tw
namespace Go.Tw
theorem K1j (p:List Rul) (n:Nat):(J7k p n).length=p.length:=by simp [J7k]
theorem J7u (p:List Rul) (n:Nat):(J7k p n).map Rul.classes=p.map Rul.classes:=by
 refine List.ext_getElem (by simp [J7k]) fun i h1 h2=>?_
 have hi:i < p.length:=by simpa using h2
 simp [J7k,Q7f hi]
theorem J9r {h:List (List Int)} {p:List Rul} {n:Nat} (hp:Q2d h p=0):Q2d h (J7k p n)=0:=by
 rw [Q4h] at hp ⊢;rw [J7u,hp]
end Go.Tw
namespace Go.Proofs
open Go.Lib
theorem K0r (c:UInt8):parts c []=[[]]:=rfl
theorem parts_eq (c:UInt8) (l:List UInt8):parts c (c :: l)=[] :: parts c l:=by rw [parts,if_pos rfl]
theorem J3k (c:UInt8):∀ l,∃ x r,parts c l=x :: r
 | []=>⟨_,_,rfl⟩
 | b :: l=>by
   unfold parts
   split
   . exact ⟨_,_,rfl⟩
   . split <;> exact ⟨_,_,rfl⟩
theorem J4s {c b:UInt8} {l x:List UInt8} {r:List (List UInt8)} (h:b ≠ c) (hp:parts c l=x :: r):parts c (b :: l)=(b :: x) :: r:=by
 rw [parts,if_neg h,hp]
theorem J4b {c:UInt8} {x r:List UInt8} (h:c ∉ x):parts c (x ++ c :: r)=x :: parts c r:=by
 induction x with
 | nil=>exact parts_eq c r
 | cons b x ih =>
   rw [List.mem_cons,not_or] at h;exact J4s (fun e=>h.1 e.symm) (ih h.2)
theorem J5d {c:UInt8} {x:List UInt8} (h:c ∉ x):parts c x=[x]:=by
 induction x with
 | nil=>rfl
 | cons b x ih =>
   rw [List.mem_cons,not_or] at h;exact J4s (fun e=>h.1 e.symm) (ih h.2)
theorem J4f (c:UInt8):∀ l,glue c (parts c l)=l
 | []=>rfl
 | b :: l=>by
   have ih:=J4f c l;obtain ⟨x,r,hp⟩:=J3k c l
   by_cases hb:b=c
   . subst hb
     rw [parts_eq,hp];rw [hp] at ih;show [] ++ b :: glue b (x :: r)=_;rw [ih]; rfl
   . rw [J4s hb hp]
     rw [hp] at ih;cases r with
     | nil=>show b :: x=_; rw [<- ih]; rfl
     | cons y r=>show b :: x ++ c :: glue c (y :: r)=_; rw [<- ih]; rfl
theorem J6o {c:UInt8}:∀ {ps:List (List UInt8)},ps ≠ [] -> (∀ x ∈ ps,c ∉ x) -> parts c (glue c ps)=ps
 | [x],_,h=>J5d (h x (List.mem_cons_self ..))
 | x :: y :: r,_,h=>by
   show parts c (x ++ c :: glue c (y :: r))=_;rw [J4b (h x (List.mem_cons_self ..)),J6o (by simp) fun z hz=>h z (List.mem_cons_of_mem _ hz)]
theorem J7h (c:UInt8):∀ l:List UInt8,(parts c l).length <= l.length + 1
 | []=>by simp [parts]
 | b :: l=>by
   have ih:=J7h c l;obtain ⟨x,r,hp⟩:=J3k c l
   by_cases hb:b=c
   . subst hb; rw [parts_eq]; simp only [List.length_cons]; omega
   . rw [J4s hb hp]; rw [hp] at ih; simp only [List.length_cons] at ih ⊢; omega
theorem J3v {c:UInt8} {x r:List UInt8} (h:c ∉ x):index (x ++ c :: r) [c]=x.length:=by
 induction x with
 | nil=>show index (c :: r) [c]=0; unfold index; rw [if_pos (by simp)]
 | cons b x ih =>
   rw [List.mem_cons,not_or] at h;show index (b :: (x ++ c :: r)) [c]=_;unfold index;have hb:([c].isPrefixOf (b :: (x ++ c :: r)))=false:=by
    show (c == b && List.isPrefixOf [] _)=false;rw [beq_false_of_ne h.1]; rfl
   rw [hb,ih h.2];have:((x.length:Int) == -1)=false:=by rw [beq_eq_false_iff_ne]; omega
   rw [this];simp
theorem J7c {c:UInt8} {x:List UInt8} (h:c ∉ x):index x [c]=-1:=by
 induction x with
 | nil=>rfl
 | cons b x ih =>
   rw [List.mem_cons,not_or] at h;unfold index;have hb:([c].isPrefixOf (b :: x))=false:=by
    show (c == b && List.isPrefixOf [] _)=false;rw [beq_false_of_ne h.1]; rfl
   rw [hb,ih h.2];rfl
theorem K2o {c:UInt8} {x r:List UInt8} (h:c ∉ x):cut (x ++ c :: r) [c]=(x,r,true):=by
 unfold cut;rw [J3v h,if_pos (by omega)]
 simp
theorem K2x {c:UInt8} {x:List UInt8} (h:c ∉ x):cut x [c]=(x,[],false):=by
 unfold cut;rw [J7c h,if_neg (by decide)]
theorem J4n (c:UInt8):∀ (n:Nat) (s:List UInt8),s.length <= n -> splitK [c] 0 (s.count c) s=parts c s
 | n,s,hn=>by
   by_cases h:c ∈ s
   . obtain ⟨x,r,rfl,hx⟩:=List.eq_append_cons_of_mem h
     have e:(x ++ c :: r).count c=r.count c + 1:=by
      rw [List.count_append,List.count_cons_self,List.count_eq_zero_of_not_mem hx]; omega
     rw [e,splitK,J3v hx];have h1:((x.length:Int) == -1)=false:=by rw [beq_eq_false_iff_ne]; omega
     rw [h1,J4b hx];simp only [List.length_append,List.length_cons] at hn;cases n with
     | zero=>omega
     | succ n =>
       have e2:(x ++ c :: r).drop (((x.length:Int)).toNat + [c].length)=r:=by simp
       rw [e2];simp only [Bool.false_eq_true,if_false,J4n c n r (by omega)]
       simp
   . rw [List.count_eq_zero_of_not_mem h,J5d h]
     rfl
def J2x (c:UInt8) (s:ByteArray):List ByteArray:=(parts c s.data.toList).map fun l=>⟨l.toArray⟩
theorem J4o (c:UInt8) (s:ByteArray):splitB ⟨#[c]⟩ 0 (countB s ⟨#[c]⟩) s=J2x c s:=by
 have h:=splitB_data ⟨#[c]⟩ 0 (countB s ⟨#[c]⟩) s;have e:countB s ⟨#[c]⟩=s.data.toList.count c:=count_one c s.data.toList;rw [e] at h ⊢;have h2:splitK [c] 0 (s.data.toList.count c) s.data.toList=parts c s.data.toList:=J4n c _ _ (Nat.le_refl _);have h3:(splitB ⟨#[c]⟩ 0 (s.data.toList.count c) s).map (·.data.toList)=parts c s.data.toList:=h.trans h2;unfold J2x;rw [<- h3,List.map_map];have e4:((fun l=>(⟨l.toArray⟩:ByteArray)) ∘ fun x:ByteArray=>x.data.toList)=id:=by
  funext x
  rfl
 rw [e4,List.map_id]
theorem J8h (c:UInt8) (s:ByteArray):∃ x r,J2x c s=x :: r:=by
 obtain ⟨x,r,h⟩:=J3k c s.data.toList;unfold J2x;rw [h];exact ⟨_,_,rfl⟩
end Go.Proofs
namespace Go.Proofs
open Go.Tw
theorem J6v:∀ {ls:List (List UInt8)},(∀ x ∈ ls,(10:UInt8) ∉ x) -> parts 10 (textOf ls)=ls ++ [[]]
 | [],_=>rfl
 | x :: r,h=>by
   have e:textOf (x :: r)=x ++ 10 :: textOf r:=by simp [textOf]
   rw [e,J4b (h x (List.mem_cons_self ..)),J6v fun y hy=>h y (List.mem_cons_of_mem _ hy)];rfl
theorem J7v:∀ (ls:List (List UInt8)),glue 10 (ls ++ [[]])=textOf ls
 | []=>rfl
 | x :: r=>by
   have ih:=J7v r;cases r with
   | nil=>show x ++ 10 :: []=_; simp [textOf]
   | cons y r =>
     show x ++ 10 :: glue 10 ((y :: r) ++ [[]])=_;rw [ih];simp [textOf]
def J2y:List UInt8 -> Option Int
 | [b]=>if 48 <= b.toNat /\ b.toNat <= 57 then some ((b.toNat:Int) - 48) else none
 | _=>none
def J2m:List (List UInt8) -> Option Rul
 | []=>none
 | [w]=>if w=J0g then some ⟨[],true⟩ else if w=J0z then some ⟨[],false⟩ else none
 | w :: v :: r=>match J2y w with
   | none=>none
   | some x=>(J2m (v :: r)).map fun q=>⟨x :: q.classes,q.close⟩
def J2l:List Rul -> Nat -> List (List UInt8) -> List Rul × Int × Int
 | _,k,[]=>([],(k:Int),26)
 | p,k,[x]=>if x.isEmpty then (if Q6h p=0 then (p,0,0) else ([],(k:Int),Q6h p)) else ([],(k:Int),26)
 | p,k,x :: y :: r=>match J2m (parts 32 x) with
   | none=>([],(k:Int),26)
   | some q=>J2l (p ++ [q]) (k + 1) (y :: r)
def J2n (s:ByteArray):List Rul × Int × Int:=if 4096 < s.size then ([],0,27) else J2l [] 0 (parts 10 s.data.toList)
theorem J9a {x:Int} (h0:0 <= x) (h9:x <= 9):(J0u x).toNat=48 + x.toNat:=by
 unfold J0u;rw [UInt8.toNat_ofNat'];omega
theorem K0a {x:Int} (h0:0 <= x) (h9:x <= 9):J2y [J0u x]=some x:=by
 show (if 48 <= (J0u x).toNat /\ (J0u x).toNat <= 57 then some (((J0u x).toNat:Int) - 48) else none)=some x
 rw [J9a h0 h9,if_pos (by omega)]
 congr 1; omega
theorem J6l:∀ (r:Rul),Digits r.classes -> J2m (Y3e r)=some r
 | ⟨[],c⟩,_=>by cases c <;> rfl
 | ⟨x :: l,c⟩,h=>by
   have ih:=J6l ⟨l,c⟩ fun y hy=>h y (List.mem_cons_of_mem _ hy);obtain ⟨h0,h9⟩:=h x List.mem_cons_self;have e:Y3e ⟨x :: l,c⟩=[J0u x] :: Y3e ⟨l,c⟩:=rfl;obtain ⟨v,r,hv⟩:∃ v r,Y3e ⟨l,c⟩=v :: r:=by cases l with | nil=>exact ⟨_,_,rfl⟩ | cons a b=>exact ⟨_,_,rfl⟩
   rw [e,hv,J2m,K0a h0 h9,<- hv,ih];rfl
theorem K2n {c:Bool}:(32:UInt8) ∉ Z9y c /\ (10:UInt8) ∉ Z9y c:=by cases c <;> decide
theorem K2l {x:Int} (h0:0 <= x) (h9:x <= 9):J0u x ≠ 32 /\ J0u x ≠ 10:=by
 have:=J9a h0 h9
 constructor <;> (intro e; rw [e] at this; simp at this; omega)
theorem J8v {r:Rul} (h:Digits r.classes):∀ w ∈ Y3e r,(32:UInt8) ∉ w /\ (10:UInt8) ∉ w:=by
 intro w hw
 rcases List.mem_append.1 hw with hw | hw
 . obtain ⟨x,hx,rfl⟩:=List.mem_map.1 hw
   obtain ⟨h0,h9⟩:=h x hx;obtain ⟨k1,k2⟩:=K2l h0 h9;exact ⟨by simp [Ne.symm k1],by simp [Ne.symm k2]⟩
 . rw [List.mem_singleton] at hw; subst hw; exact K2n
theorem K1m (r:Rul):Y3e r ≠ []:=by simp [Y3e]
theorem J9p {r:Rul} (h:Digits r.classes):parts 32 (Q8v r)=Y3e r:=J6o (K1m r) fun w hw=>(J8v h w hw).1
theorem K0c {b c:UInt8} (hb:b ≠ c):∀ {ws:List (List UInt8)},(∀ w ∈ ws,b ∉ w) -> b ∉ glue c ws
 | [],_=>by simp [glue]
 | [w],h=>h w List.mem_cons_self
 | w :: v :: r,h=>by
   show b ∉ w ++ c :: glue c (v :: r);rw [List.mem_append,List.mem_cons];rintro (k | k | k)
   . exact h w List.mem_cons_self k
   . exact hb k
   . exact K0c hb (fun z hz=>h z (List.mem_cons_of_mem _ hz)) k
theorem K2d {r:Rul} (h:Digits r.classes):(10:UInt8) ∉ Q8v r:=K0c (by decide) fun w hw=>(J8v h w hw).2
theorem J3i {r:Rul} (h:Q5c r=0):0 < r.classes.length /\ r.classes.length <= 6 /\ Digits r.classes:=by
 unfold Q5c at h
 by_cases h1:r.classes.length=0
 . rw [if_pos h1] at h; exact absurd h (by decide)
 rw [if_neg h1] at h
 by_cases h2:6 < r.classes.length
 . rw [if_pos h2] at h; exact absurd h (by decide)
 rw [if_neg h2] at h;exact ⟨by omega,by omega,Go.Tw.Q4l.1 h⟩
theorem J3j {p:List Rul} (h:Q6h p=0):p.length <= 48 /\ ∀ r ∈ p,Q5c r=0:=by
 unfold Q6h at h
 by_cases h1:48 < p.length
 . rw [if_pos h1] at h; exact absurd h (by decide)
 rw [if_neg h1,Go.Tw.Q1r] at h;exact ⟨by omega,fun r hr=>h _ (List.mem_map.2 ⟨r,hr,rfl⟩)⟩
theorem J6r:∀ (p pre:List Rul) (k:Nat),(∀ r ∈ p,Digits r.classes) -> Q6h (pre ++ p)=0 -> J2l pre k (p.map Q8v ++ [[]])=(pre ++ p,0,0)
 | [],pre,k,_,he=>by
   rw [List.append_nil] at he ⊢;show J2l pre k [[]]=_;simp [J2l,he]
 | r :: p,pre,k,hd,he=>by
   obtain ⟨y,t,e⟩:∃ y t,p.map Q8v ++ [[]]=y :: t:=by cases p with | nil=>exact ⟨_,_,rfl⟩ | cons a b=>exact ⟨_,_,rfl⟩
   have ih:=J6r p (pre ++ [r]) (k + 1) (fun q hq=>hd q (List.mem_cons_of_mem _ hq)) (by rw [List.append_assoc]; exact he)
   have hr:=hd r List.mem_cons_self;rw [List.map_cons,List.cons_append,e,J2l,J9p hr,J6l r hr];dsimp only;rw [<- e,ih,List.append_assoc]; rfl
theorem J9d (c:UInt8):∀ (ws:List (List UInt8)) (n:Nat),(∀ w ∈ ws,w.length <= n) -> (glue c ws).length <= ws.length * (n + 1)
 | [],_,_=>by simp [glue]
 | [w],n,h=>by have:=h w List.mem_cons_self; simp only [glue,List.length_singleton]; omega
 | w :: v :: r,n,h=>by
   have h1:=h w List.mem_cons_self;have h2:=J9d c (v :: r) n fun z hz=>h z (List.mem_cons_of_mem _ hz);show (w ++ c :: glue c (v :: r)).length <= (v :: r).length.succ * (n + 1);rw [Nat.succ_mul,List.length_append,List.length_cons]; omega
theorem J9y (r:Rul):∀ w ∈ Y3e r,w.length <= 5:=by
 intro w hw
 rcases List.mem_append.1 hw with hw | hw
 . obtain ⟨x,-,rfl⟩:=List.mem_map.1 hw; simp
 . rw [List.mem_singleton] at hw; subst hw; cases r.close <;> decide
theorem K1i {r:Rul} (h:r.classes.length <= 6):(Q8v r).length <= 42:=by
 have h1:=J9d 32 (Y3e r) 5 (J9y r);have h2:(Y3e r).length=r.classes.length + 1:=by simp [Y3e]
 rw [h2] at h1;unfold Q8v; omega
theorem J8t (n:Nat):∀ ls:List (List UInt8),(∀ x ∈ ls,x.length <= n) -> (textOf ls).length <= ls.length * (n + 1)
 | [],_=>by simp [textOf]
 | x :: r,h=>by
   have h1:=h x List.mem_cons_self;have h2:=J8t n r fun z hz=>h z (List.mem_cons_of_mem _ hz);have e:textOf (x :: r)=x ++ 10 :: textOf r:=by simp [textOf]
   rw [e,List.length_cons,Nat.succ_mul,List.length_append,List.length_cons]; omega
theorem J6q {p:List Rul} (h:Q6h p=0):(Z6l p).size <= 2064:=by
 obtain ⟨h1,h2⟩:=J3j h;have:=J8t 42 (p.map Q8v) fun x hx=>by
  obtain ⟨r,hr,rfl⟩:=List.mem_map.1 hx;exact K1i (J3i (h2 r hr)).2.1
 rw [List.length_map] at this;show (X9q p).toArray.size <= 2064;rw [List.size_toArray];unfold X9q; omega
theorem J8k {p:List Rul} (h:Q6h p=0):J2n (Z6l p)=(p,0,0):=by
 obtain ⟨h1,h2⟩:=J3j h;have hd:∀ r ∈ p,Digits r.classes:=fun r hr=>(J3i (h2 r hr)).2.2;unfold J2n;rw [if_neg (by have:=J6q h; omega)]
 show J2l [] 0 (parts 10 (X9q p))=_;unfold X9q;rw [J6v fun x hx=>by obtain ⟨r,hr,rfl⟩:=List.mem_map.1 hx; exact K2d (hd r hr)]
 exact J6r p [] 0 hd h
theorem K0p {w:List UInt8} {x:Int} (h:J2y w=some x):w=[J0u x] /\ 0 <= x /\ x <= 9:=by
 match w,h with
 | [b],h =>
   change (if 48 <= b.toNat /\ b.toNat <= 57 then some ((b.toNat:Int) - 48) else none)=some x at h
   split at h
   . rename_i hb
     injection h with h;subst h;refine ⟨?_,by omega,by omega⟩
     unfold J0u
     congr 1
     apply UInt8.toNat_inj.1
     rw [UInt8.toNat_ofNat'];omega
   . cases h
 | [],h=>cases h
 | _ :: _ :: _,h=>cases h
theorem J7n:∀ {ws:List (List UInt8)} {q:Rul},J2m ws=some q -> Y3e q=ws
 | [],_,h=>by cases h
 | [w],q,h=>by
   unfold J2m at h
   split at h
   . rename_i hw; cases h; rw [hw]; rfl
   . split at h
     . rename_i hw; cases h; rw [hw]; rfl
     . cases h
 | w :: v :: r,q,h=>by
   unfold J2m at h;cases hw:J2y w with
   | none=>rw [hw] at h; cases h
   | some x =>
     rw [hw] at h;obtain ⟨q',hq,rfl⟩:=Option.map_eq_some_iff.1 h;have ih:=J7n hq;rw [(K0p hw).1,<- ih]; rfl
theorem J7l:∀ {ls:List (List UInt8)} {pre p:List Rul} {k:Nat} {a:Int},J2l pre k ls=(p,a,0) -> ∃ q,p=pre ++ q /\ ls=q.map Q8v ++ [[]] /\ Q6h p=0 /\ a=0
 | [],pre,p,k,a,h=>by cases h
 | [x],pre,p,k,a,h=>by
   unfold J2l at h
   split at h
   . rename_i hx
     split at h
     . rename_i he
       cases h;exact ⟨[],by simp,by simpa using hx,he,rfl⟩
     . rename_i he
       have:=congrArg (fun z:List Rul × Int × Int=>z.2.2) h;exact absurd this he
   . cases h
 | x :: y :: r,pre,p,k,a,h=>by
   unfold J2l at h;cases hx:J2m (parts 32 x) with
   | none=>rw [hx] at h; cases h
   | some q =>
     rw [hx] at h;obtain ⟨t,e1,e2,e3,e4⟩:=J7l h;refine ⟨q :: t,by rw [e1,List.append_assoc]; rfl,?_,e3,e4⟩
     rw [List.map_cons,List.cons_append,<- e2]
     congr 1
     unfold Q8v;rw [J7n hx,J4f]
theorem J8d {s:ByteArray} {p:List Rul} {a:Int} (h:J2n s=(p,a,0)):Q6h p=0 /\ Z6l p=s /\ a=0:=by
 unfold J2n at h
 split at h
 . cases h
 . obtain ⟨q,e1,e2,e3,e4⟩:=J7l h
   rw [List.nil_append] at e1;subst e1;refine ⟨e3,?_,e4⟩;unfold Z6l X9q;rw [<- J7v,<- e2,J4f]
end Go.Proofs
namespace Go.Proofs
open Go.RowKit Go.Tw Go.Flow
attribute [local go_sem] Oper.semAt_some
theorem J7a {X:Option Addr} {l c:Nat} {b:Bool}:∀ u ∈ (#[Value.slice X l c,.bool b]:Array Value).toList,u.oneCell'=true:=by
 intro u hu;simp only [List.mem_cons,List.not_mem_nil,or_false] at hu
 rcases hu with rfl | rfl <;> rfl
end Go.Proofs
namespace Go.Proofs
open Go.RowKit Go.Tw Go.Flow
theorem K2t {a b:ByteArray} (h:a.data.toList=b.data.toList):a=b:=by
 apply ByteArray.ext
 exact Array.toList_inj.1 h
end Go.Proofs
namespace Go.Proofs
open Go.RowKit Go.Tw Go.Flow
def dat (x:ByteArray):List UInt8:=x.data.toList
theorem J8i {a b:ByteArray} (h:dat a=dat b):a=b:=K2t h
theorem J4u (x:ByteArray):(dat x).length=x.size:=Array.length_toList
theorem J7q (c:UInt8) (s:ByteArray):(J2x c s).map dat=parts c (dat s):=by
 unfold J2x;rw [List.map_map];exact List.map_id _
def J7e:List (List UInt8) -> Option (List Int)
 | []=>some []
 | w :: r=>(J2y w).bind fun x=>(J7e r).map (x :: ·)
theorem J7o (x:List UInt8):∀ l,J7e (l ++ [x])=(J7e l).bind fun a=>(J2y x).map fun d=>a ++ [d]
 | []=>by cases h:J2y x <;> simp [J7e,h]
 | w :: r=>by
   rw [List.cons_append,J7e,J7e,J7o x r];cases J2y w <;> cases J7e r <;> cases J2y x <;> rfl
def endOf (e:List UInt8):Option Bool:=if e=J0g then some true else if e=J0z then some false else none
theorem J3o (e:List UInt8):∀ l,J2m (l ++ [e])=(J7e l).bind fun a=>(endOf e).map fun c=>⟨a,c⟩
 | []=>by
   show J2m [e]=_;unfold J2m endOf J7e
   by_cases h1:e=J0g
   . rw [if_pos h1,if_pos h1]; rfl
   . rw [if_neg h1,if_neg h1]
     by_cases h2:e=J0z
     . rw [if_pos h2,if_pos h2]; rfl
     . rw [if_neg h2,if_neg h2]; rfl
 | w :: l=>by
   have ih:=J3o e l;obtain ⟨v,r,hv⟩:∃ v r,l ++ [e]=v :: r:=by cases l with | nil=>exact ⟨_,_,rfl⟩ | cons a b=>exact ⟨_,_,rfl⟩
   rw [List.cons_append,hv,J2m,<- hv,ih,J7e];cases J2y w <;> cases J7e l <;> cases endOf e <;> rfl
theorem J9z {l:List (List UInt8)} {N:Nat} (h:l.length=N + 1):l=l.take N ++ [l.getD N []]:=by
 have hN:N < l.length:=by omega
 have e:=List.take_succ_eq_append_getElem hN;rw [List.take_of_length_le (by omega)] at e
 rw [List.getD_eq_getElem?_getD,List.getElem?_eq_getElem hN];exact e
theorem K2s {s:ByteArray} (h:s.size ≠ 1):J2y (dat s)=none:=by
 have hl:=J4u s
 match hd:dat s with
 | []=>rfl
 | [b]=>rw [hd] at hl; exact absurd hl.symm h
 | _ :: _ :: _=>rfl
theorem K2f {s:ByteArray} (h:s.size=1):dat s=[s[0]'(by omega)]:=by
 have hl:=J4u s;rw [h] at hl
 match hd:dat s with
 | [b] =>
   have e:(dat s)[0]'(by rw [hl]; omega)=b:=by simp only [hd]; rfl
   rw [<- e]; rfl
 | []=>rw [hd] at hl; cases hl
 | _ :: _ :: _=>rw [hd] at hl; simp at hl
theorem K2m {s:ByteArray} (h:s.size=1):J2y (dat s)=if 48 <= (s[0]'(by omega)).toNat /\ (s[0]'(by omega)).toNat <= 57 then some (((s[0]'(by omega)).toNat:Int) - 48) else none:=by
 rw [K2f h]; rfl
end Go.Proofs
