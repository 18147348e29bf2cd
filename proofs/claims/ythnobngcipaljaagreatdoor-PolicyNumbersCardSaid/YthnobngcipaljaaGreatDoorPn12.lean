/- Maps with string keys that a call makes, as lists of pairs: look-ups and stores. Plain law: the rules of a policy as a map from keys to closings. Contracts: key. Contracts: closings (of the program): the map of the rules, and what it says for each member. Contracts: closings (of the program). -/
import Derived.Test.YthnobngcipaljaaGreatDoorPn03
import Derived.Maps.OwnSet
import Derived.MapKept
import Derived.Test.YthnobngcipaljaaGreatDoorPn11
import Derived.Test.YthnobngcipaljaaGreatDoorPn08
import Derived.Test.YthnobngcipaljaaGreatDoorPn07
import Derived.Laws.BytesArg
set_option maxRecDepth 1000000
set_option maxHeartbeats 64000000
set_option linter.unusedVariables false
set_option linter.unusedSimpArgs false
set_option linter.constructorNameAsVariable false
open Go.Lib (hid)
namespace Go.Tw
open Go.RowKit Go.Flow
def X2p (s:ByteArray):List (ByteArray × Value) -> Option Value
 | []=>none
 | p :: l=>if (s == p.1)=true then some p.2 else X2p s l
def Z2e (s:ByteArray) (v:Value):List (ByteArray × Value) -> List (ByteArray × Value)
 | []=>[(s,v)]
 | p :: l=>if (s == p.1)=true then (s,v) :: l else p :: Z2e s v l
def Q6c (w:World) (b:Nat) (l:List (ByteArray × Value)):Prop :=
 ∃ a clock,w.heap[b]?=some (.map a clock) /\ a.toList.map (fun e=>(e.key,e.val))=l.map fun p=>(Value.string p.1,p.2)
theorem Q6c.made (w:World):Q6c (w.alloc (.map #[] 0)) w.heap.size []:=⟨#[],0,by show (w.heap.push _)[w.heap.size]?=_; simp,rfl⟩
theorem Q6c.ext {w w':World} {b:Nat} {l:List (ByteArray × Value)} (h:Q6c w b l) (hx:Ext w w'):Q6c w' b l:=by
 obtain ⟨a,c,hb,he⟩:=h;exact ⟨a,c,by rw [Below.block hx b (Array.getElem?_eq_some_iff.1 hb).1]; exact hb,he⟩
theorem Q6c.lt {w:World} {b:Nat} {l:List (ByteArray × Value)} (h:Q6c w b l):b < w.heap.size:=by
 obtain ⟨a,c,hb,_⟩:=h;exact (Array.getElem?_eq_some_iff.1 hb).1
theorem X8t (s:ByteArray):∀ (es:List MapEntry) (l:List (ByteArray × Value)) (i:Nat),es.map (fun e=>(e.key,e.val))=l.map (fun p=>(Value.string p.1,p.2)) ->
    ∃ r,Instr.findNow .string (.string s) es i=some r /\ r.map (·.2)=X2p s l
 | [],[],i,_=>⟨none,rfl,rfl⟩
 | [],_ :: _,_,h=>by simp at h
 | _ :: _,[],_,h=>by simp at h
 | e :: es,p :: l,i,h=>by
   simp only [List.map_cons,List.cons.injEq,Prod.mk.injEq] at h;obtain ⟨⟨h1,h2⟩,h3⟩:=h;unfold Instr.findNow X2p;simp only [h1,Instr.sameNow,h2];cases hs:(s == p.1) with
   | true=>exact ⟨some (i,p.2),by simp,by simp⟩
   | false =>
     obtain ⟨r,hr,hf⟩:=X8t s es l (i + 1) h3;exact ⟨r,by simpa using hr,by simpa using hf⟩
theorem J0c (s:ByteArray):(s == s)=true:=str_eq rfl
theorem J3t {a b:ByteArray} (h:(a == b)=true):a=b:=by
 cases hb:decide (a=b) with
 | true=>exact of_decide_eq_true hb
 | false=>rw [X2t (of_decide_eq_false hb)] at h; cases h
theorem Y3a (s:ByteArray):∀ (es:List MapEntry) (l:List (ByteArray × Value)) (i:Nat),es.map (fun e=>(e.key,e.val))=l.map (fun p=>(Value.string p.1,p.2)) ->
    (Instr.findNow .string (.string s) es i=some none /\ ∀ v,Z2e s v l=l ++ [(s,v)]) ∨
    (∃ j x,Instr.findNow .string (.string s) es i=some (some (i + j,x)) /\ j < es.length /\ (∃ e,es[j]?=some e /\ e.key=.string s) /\ ∀ v e,e.key=Value.string s -> e.val=v ->
     (es.set j e).map (fun e=>(e.key,e.val))=(Z2e s v l).map (fun p=>(Value.string p.1,p.2)))
 | [],[],i,_=>.inl ⟨rfl,fun v=>rfl⟩
 | [],_ :: _,_,h=>by simp at h
 | _ :: _,[],_,h=>by simp at h
 | e :: es,p :: l,i,h=>by
   simp only [List.map_cons,List.cons.injEq,Prod.mk.injEq] at h;obtain ⟨⟨h1,h2⟩,h3⟩:=h;cases hs:(s == p.1) with
   | true =>
     have hsp:=J3t hs;refine .inr ⟨0,e.val,?_,by simp,⟨e,rfl,by rw [h1,hsp]⟩,fun v e' h4 h5=>?_⟩
     . unfold Instr.findNow
       simp only [h1,Instr.sameNow,hs]; rfl
     . unfold Z2e
       rw [if_pos hs];simp [h4,h5,h3]
   | false =>
     have hn:¬ (s == p.1)=true:=by rw [hs]; simp
     rcases Y3a s es l (i + 1) h3 with ⟨ha,hb⟩ | ⟨j,x,ha,hj,⟨e0,he0,hk0⟩,hb⟩
     . refine .inl ⟨?_,fun v=>?_⟩
       . unfold Instr.findNow
         simp only [h1,Instr.sameNow,hs]; exact ha
       . unfold Z2e
         rw [if_neg hn,hb v]; rfl
     . refine .inr ⟨j + 1,x,?_,by simp; omega,⟨e0,by simpa using he0,hk0⟩,fun v e' h4 h5=>?_⟩
       . unfold Instr.findNow
         simp only [h1,Instr.sameNow,hs];rw [show i + (j + 1)=i + 1 + j from by omega]; exact ha
       . unfold Z2e
         rw [if_neg hn];simp only [List.set_cons_succ,List.map_cons,h1,h2];rw [hb v e' h4 h5]
theorem X5k {P:Program} {w:World} {r:Nat} {es:Array MapEntry} {clock:Nat} (hb:w.heap[r]?=some (.map es clock)):(getObj r).run P w=.ok (.map es clock) w:=by
 simp [getObj,Sem.run,hb]
theorem Y3d {P:Program} {w:World} {r:Nat} {es:Array MapEntry} {clock:Nat} (o:Obj) (hb:w.heap[r]?=some (.map es clock)):(setObj r o).run P w=.ok () { w with heap:=w.heap.setIfInBounds r o }:=by
 simp [setObj,Sem.run,hb]
theorem X4f {P:Program} {w:World} {k:TypeId} (hk:P.underlying k=some .string) (e:Bool) (s:ByteArray) (n:Nat):(Instr.checkKey e (n + 1) k (.string s)).run P w=.ok () w:=by
 unfold Instr.checkKey;simp only [Sem.run_bind,run_underlying hk,Result.andThen_ok,Sem.run_pure]
theorem Y1h {P:Program} {w:World} {b:Nat} {l:List (ByteArray × Value)} (h:Q6c w b l) {t k e:TypeId} (ht:P.underlying t=some (.map k e)) (hk:P.underlying k=some .string) {z:Value} (hz:(zeroValue e).run P w=.ok z w) (s:ByteArray) (ok:Bool) :
    (Instr.lookup t (.map (some b)) (.string s) ok).run P w=.ok (if ok then .tuple #[(X2p s l).getD z,.bool (X2p s l).isSome] else (X2p s l).getD z) w:=by
 obtain ⟨a,clock,hb,he⟩:=h;obtain ⟨r,hr,hf⟩:=X8t s a.toList l 0 he;unfold Instr.lookup;simp only [Sem.run_bind,run_underlying ht,Result.andThen_ok,X5k hb,Sem.run_pure,X4f hk _ s 9999,Instr.findKey,run_underlying hk,hr];rw [<- hf];cases r with
 | none=>simp only [Sem.run_bind,hz,Result.andThen_ok,Sem.run_pure]; cases ok <;> rfl
 | some p=>cases ok <;> rfl
theorem Y9w {P:Program} {w:World} {b:Nat} {l:List (ByteArray × Value)} (h:Q6c w b l) {t k e:TypeId} (ht:P.underlying t=some (.map k e)) (hk:P.underlying k=some .string) (s:ByteArray) (v:Value) :
    ∃ w',(Instr.mapUpdate t (.map (some b)) (.string s) v).run P w=.ok () w' /\ Q6c w' b (Z2e s v l) /\ (∀ n,n <= b -> Below n w w') /\ w.grownBy w' (some b):=by
 obtain ⟨a,clock,hb,he⟩:=h;have hlt:=(Array.getElem?_eq_some_iff.1 hb).1;have hbel:∀ o n,n <= b -> Below n w { w with heap:=w.heap.setIfInBounds b o }:=fun o n hn =>
  ⟨rfl,rfl,rfl,by simp,fun k hk'=>by show (w.heap.setIfInBounds b o)[k]?=_; rw [Array.getElem?_setIfInBounds_ne (by omega)]⟩
 have hgr:∀ o,w.grownBy { w with heap:=w.heap.setIfInBounds b o } (some b):=fun o =>
  ⟨rfl,rfl,rfl,by simp,fun k _ hk'=>by show (w.heap.setIfInBounds b o)[k]?=_; rw [Array.getElem?_setIfInBounds_ne (fun e=>hk' (by rw [e]))]⟩
 rcases Y3a s a.toList l 0 he with ⟨hr,hp⟩ | ⟨j,x,hr,hj,⟨e0,he0,hk0⟩,hp⟩
 . refine ⟨{ w with heap:=w.heap.setIfInBounds b (.map (a.push ⟨.string s,v,clock⟩) (clock + 1)) },?_,⟨a.push ⟨.string s,v,clock⟩,clock + 1,?_,?_⟩,hbel _,hgr _⟩
   . unfold Instr.mapUpdate
     simp only [Sem.run_bind,run_underlying ht,Result.andThen_ok,X5k hb,Sem.run_pure,X4f hk _ s 9999,Instr.findKey,run_underlying hk,hr];exact Y3d _ hb
   . show (w.heap.setIfInBounds b _)[b]?=_; simp [hlt]
   . rw [hp v]; simp [he]
 . rw [Nat.zero_add] at hr
   have he0':a[j]?=some e0:=by simpa using he0
   refine ⟨{ w with heap:=w.heap.setIfInBounds b (.map (a.modify j fun e=>{ e with key:=.string s,val:=v }) clock) },?_,⟨a.modify j fun e=>{ e with key:=.string s,val:=v },clock,?_,?_⟩,hbel _,hgr _⟩
   . unfold Instr.mapUpdate
     simp only [Sem.run_bind,run_underlying ht,Result.andThen_ok,X5k hb,Sem.run_pure,X4f hk _ s 9999,Instr.findKey,run_underlying hk,hr,he0',Option.map_some,Option.getD_some,hk0];have hkt:(Instr.keyThatStays (.string s) (.string s)).run P w=.ok (.string s) w:=by
      unfold Instr.keyThatStays;rw [if_pos (by unfold Instr.sameBits; exact J0c s)]; rfl
     simp only [hkt,Result.andThen_ok];exact Y3d _ hb
   . show (w.heap.setIfInBounds b _)[b]?=_; simp [hlt]
   . have:=hp v { e0 with key:=.string s,val:=v } rfl rfl
     rw [<- this]
     congr 1
     apply List.ext_getElem?
     intro i;rw [Array.getElem?_toList,Array.getElem?_modify,List.getElem?_set]
     by_cases hij:j=i
     . subst hij
       have hja:j < a.size:=by simpa using hj
       simp only [he0',Option.map_some,if_true,Array.length_toList,hja]
     . simp [hij]
end Go.Tw
namespace Go.Tw
open Go.RowKit
theorem Y7a (s k:ByteArray) (v:Value):∀ l,X2p k (Z2e s v l)=if k=s then some v else X2p k l
 | []=>by
   unfold Z2e X2p
   by_cases h:k=s
   . rw [if_pos (str_eq h),if_pos h]
   . rw [if_neg (by rw [X2t h]; simp),if_neg h]; rfl
 | p :: l=>by
   unfold Z2e
   by_cases hs:s=p.1
   . rw [if_pos (str_eq hs)]
     by_cases h:k=s
     . simp only [X2p]; rw [if_pos (str_eq h),if_pos h]
     . simp only [X2p]; rw [if_neg (by rw [X2t h]; simp),if_neg h,if_neg (by rw [<- hs,X2t h]; simp)]
   . rw [if_neg (by rw [X2t hs]; simp)]
     simp only [X2p]
     by_cases hk:k=p.1
     . rw [if_pos (str_eq hk),if_pos (str_eq hk),if_neg (fun e=>hs (by rw [<- e,hk]))]
     . have h1:¬ (k == p.1)=true:=by rw [X2t hk]; simp
       rw [if_neg h1,Y7a s k v l]
       by_cases h:k=s
       . rw [if_pos h,if_pos h]
       . rw [if_neg h,if_neg h,if_neg h1]
def Q7j (p:List Rul):Nat -> List (ByteArray × Value)
 | 0=>[]
 | k + 1=>Z2e (Q6q (Q0n p k)) (.bool (Q3v p k)) (Q7j p k)
theorem Z6b (p:List Rul) (r:Rul) (h:List Int) (hn:h=r.classes -> h ∉ p.map Rul.classes):look (p ++ [r]) h=if h=r.classes then r.close else look p h:=by
 unfold look;rw [List.find?_append]
 by_cases he:h=r.classes
 . have h0:p.find? (fun x=>x.classes == h)=none:=by
    rw [List.find?_eq_none];intro x hx hxe;exact hn he (List.mem_map.2 ⟨x,hx,by simpa using hxe⟩)
   rw [h0,if_pos he];simp [he]
 . rw [if_neg he]
   have h1:(r.classes == h)=false:=by rw [beq_eq_false_iff_ne]; exact fun e=>he e.symm
   cases hf:p.find? (fun x=>x.classes == h) with
   | some x=>simp
   | none=>simp [h1]
theorem Z3f {p:List Rul} (hn:(p.map Rul.classes).Nodup) (hd:∀ k,k < p.length -> Digits (Q0n p k)) {h:List Int} (hh:Digits h) :
    ∀ k,k <= p.length -> (X2p (Q6q h) (Q7j p k)).getD (.bool false)=.bool (look (p.take k) h)
 | 0,_=>rfl
 | k + 1,hk=>by
   have hlt:k < p.length:=by omega
   rw [Q7j,Y7a,List.take_succ_eq_append_getElem hlt];have hnot:h=p[k].classes -> h ∉ (p.take k).map Rul.classes:=by
    rintro rfl hm;obtain ⟨x,hx,he⟩:=List.mem_map.1 hm;obtain ⟨j,hj,rfl⟩:=List.getElem_of_mem hx;rw [List.length_take] at hj;rw [List.getElem_take] at he;have hpw:=List.pairwise_iff_getElem.1 hn j k (by simp; omega) (by simpa using hlt) (by omega)
    simp only [List.getElem_map] at hpw;exact hpw he
   rw [Z6b _ _ _ hnot]
   by_cases he:h=p[k].classes
   . rw [if_pos he,if_pos (by rw [he,Q8h hlt]),Z9g hlt]; rfl
   . rw [if_neg he,if_neg (fun e=>he (by rw [Z2m hh (hd k hlt) e,Q8h hlt]))]
     exact Z3f hn hd hh k (by omega)
theorem Y5t {p:List Rul} (hn:(p.map Rul.classes).Nodup) (hd:∀ k,k < p.length -> Digits (Q0n p k)) {h:List Int} (hh:Digits h) :
    (X2p (Q6q h) (Q7j p p.length)).getD (.bool false)=.bool (look p h):=by
 rw [Z3f hn hd hh _ (Nat.le_refl _),List.take_length]
end Go.Tw
namespace Go.Proofs
open Go.RowKit Go.Tw Go.Flow
theorem Tryz.J5z:(Tryz.prog.info? 5).map (fun i=>(i.zero,i.size,i.bytes))=some (some (.int .u8 0),1,1):=by kernel_rfl
theorem Z9m (W:World) (x:Int) (h:0 <= x /\ x <= 9) :
    Calls Tryz.prog 165 #[.int .i64 x] W fun e W'=>e=.returned (.int .u8 x) /\ W=W':=by
 have hc:(convert 3 5 (.int .i64 x)).run Tryz.prog W=.ok (.int .u8 x) W:=by
  have hw:IntKind.u8.wrap x=x:=by simp [IntKind.wrap,IntKind.bits,IntKind.signed]; omega
  have h1:Tryz.prog.underlying 3=some (.int .i64):=by kernel_rfl
  have h2:Tryz.prog.underlying 5=some (.int .u8):=by kernel_rfl
  simp [convert,run_underlying h1,run_underlying h2,Conv.intToInt,hw]
 go_enter Tryz.func165,Tryz.ntmps165;go_wp2;go_ret;exact ⟨rfl,rfl⟩
theorem J0m (l:List Int) {k:Nat} (hk:k < l.length):l.take k ++ [ix l k]=l.take (k + 1):=by
 rw [List.take_succ_eq_append_getElem hk,Q4n hk]
theorem Y0o (w:World) (v:Value) (l:List Int) (hv:Q0e w v l) (hle:l.length <= 4096) (hd:Digits l) :
    Calls Tryz.prog 164 #[v,.func (.func 165) #[] #[]] w fun e w'=>∃ x,e=.returned x /\ Q0m w' w.heap.size 5 (.int .u8) x l /\ Ext w w':=by
 obtain ⟨i0,hi,hz0,hz1,hz2⟩:=info_parts Tryz.J5z;obtain ⟨A,cap,rfl,hl,hcap,hc⟩:=hv.opened;have HC:=hid hc;have HD:=hid hd;clear hv hc hd;go_enter Tryz.func164,Tryz.ntmps164;go_wp2
 go_loopw [5,10] (fun o i wr=>∃ (k:Nat),k <= l.length /\ i=.int .i64 k /\ Q0m wr w.heap.size 5 (.int .u8) o (l.take k) /\ Ext w wr) (fun _ i _=>l.length - (intOf i).toNat)
 case atStart=>exact ⟨0,Nat.zero_le _,rfl,Q0m.nil _ _ _ _,Ext.refl _⟩
 case round =>
  obtain ⟨k,hk,rfl,hown,hx⟩:=hrel;have hlen:(l.take k).length=k:=by rw [List.length_take]; omega
  by_cases hlt:k < l.length
  . obtain ⟨b,off,rfl,hcell⟩:=HC.out k hlt
    have HTK:=hid (J0m l hlt);have hdk:=HD.out (ix l k) (by rw [Q4n hlt]; exact List.getElem_mem hlt)
    obtain ⟨s,hs⟩:∃ s,ix l k=s:=⟨_,rfl⟩;rw [hs] at hcell HTK hdk;have HFS:=hid (Z9m wr s hdk);replace hcell:=hx.cell hcell;have hll:(l.take k).length <= 4096:=by omega
    clear hs hlen hdk;go_wp2_with (first | (refine HFS.out.mono ?_; rintro e w9 ⟨rfl,rfl⟩) | (at_builtin; refine wpList_append_own _ rfl _ _ 212 rfl (w.heap.size) 5 i0 (.int .u8 0) 1 1 Tryz.underlying212 hi hz0 hz1 hz2 rfl (by decide) _ _ _ rfl (World.ownsRow.alloc hown _) ⟨wr.heap.size,0,none⟩ 1 1 [.int .u8 s] rfl rfl ?_ ?_ ?_ ?_ ?_ ?_; exact Q3i _ _ _; (focus (simp [Value.oneCell'])); (focus (unfold maxLen; omega)); (focus omega); (focus (have:=hx.size; simp at this ⊢; omega)); intro v' w1 hown' hgrow _))
    have hx':=Q2e hx hown (Nat.le_refl _) hgrow;go_wp2;go_roundw
    case rel=>exact ⟨k + 1,by omega,by go_num,by rw [<- HTK.out]; exact Q0m.snoc hown',hx'⟩
    case measure=>simp [intOf]; omega
  . have HE:Hid (l.take k=l):=hid (List.take_of_length_le (by omega))
    rw [HE.out] at hown;have HOWN:=hid hown;clear hown hlen;go_wp2;go_ret;exact ⟨_,rfl,HOWN.out,hx⟩
theorem Y4e (w:World) {base:Nat} {u:Value} {l:List Int} (hu:Q0m w base 5 (.int .u8) u l) :
    (convert 212 9 u).run Tryz.prog w=.ok (.string (Q6q l)) w:=by
 have h1:Tryz.prog.underlying 212=some (.slice 5):=by kernel_rfl
 have h2:Tryz.prog.underlying 5=some (.int .u8):=by kernel_rfl
 have h3:Tryz.prog.underlying 9=some .string:=by kernel_rfl
 rcases hu.cells2 with ⟨rfl,rfl⟩ | ⟨g,c,rfl,-,-,-,hcell⟩
 . rw [run_convert_bytes_nil w _ _ h1 h2 0 0 _ h3]; rfl
 . rw [run_convert_bytes_arg w _ _ h1 h2 g 0 l.length c l rfl (fun i hi=>by rw [hcell i hi]; simp [hi]) _ h3]; rfl
theorem Y4j (w:World) (v:Value) (l:List Int) (hv:Q0e w v l) (hle:l.length <= 4096) (hd:Digits l) :
    Calls Tryz.prog 102 #[v] w fun e w'=>e=.returned (.string (Q6q l)) /\ Ext w w':=by
 have HM:=hid (Y0o w v l hv hle hd);obtain ⟨A,cap,rfl,-,-,-⟩:=hv.opened;clear hv hd;go_enter Tryz.func102,Tryz.ntmps102;go_wp2_with fail;refine HM.out.mono ?_;rintro e w5 ⟨u,rfl,hu,hx5⟩;have hcv:=Y4e w5 hu;have HX:=hid hx5;clear hu hx5;go_wp2;go_ret;exact ⟨rfl,HX.out⟩
end Go.Proofs
namespace Go.Proofs
open Go.RowKit Go.Tw Go.Flow
attribute [local go_sem] Oper.semAt_some
theorem J1u:Tryz.prog.underlying 245=some (.map 9 4):=by kernel_rfl
theorem J6c:Tryz.prog.underlying 9=some .string:=by kernel_rfl
theorem J4z (w:World):(zeroValue 4).run Tryz.prog w=.ok (.bool false) w:=by kernel_rfl
theorem J2v {α:Type} {enc:α -> Value} {w:World} {v:Value} {x:α} (h:Q2y w v (enc x)):Src w enc v [x]:=by
 obtain ⟨g,h1,h2⟩:=h;exact ⟨_,1,h1,fun j hj=>⟨g,0,rfl,by
  have:j=0:=by simp at hj; exact hj
  subst this; exact h2⟩⟩
def X6h (p:List Rul) (l:List Int) (k:Nat):List Bool:=(List.range k).map fun t=>Tw.look p (l.take (t + 1))
theorem Y9q (p:List Rul) (l:List Int) (k:Nat):X6h p l (k + 1)=X6h p l k ++ [Tw.look p (l.take (k + 1))]:=by unfold X6h; rw [List.range_succ,List.map_append]; rfl
theorem Z3t (p:List Rul) (l:List Int) (k:Nat):(X6h p l k).length=k:=by simp [X6h]
theorem Y1k (w:World) (v:Value) (m:Mem) (p:List Rul) (B b:Nat) (hv:X3f w v m) (hn:(p.map Rul.classes).Nodup) (hd:∀ k,k < p.length -> Digits (Q0n p k)) (hm:Digits m.classes) (hl:m.classes.length <= 8)
    (hB:w.cell? ⟨B,0,none⟩=some (.map (some b))) (hM:Q6c w b (Q7j p p.length)) :
    Calls Tryz.prog 168 #[v,.pointer (some ⟨B,0,none⟩)] w fun e w'=>∃ x,e=.returned x /\ Q0m w' w.heap.size 4 .bool x (Q0i p m.classes) /\ Ext w w':=by
 obtain ⟨i0,hi,hz0,hz1,hz2⟩:=info_parts Tryz.X7o;obtain ⟨x,y,z,rfl,hx,hy,hz⟩:=hv;have HXI:=hid hx;obtain ⟨X,capx,rfl,-,hcapx,hcX⟩:=hx.opened;obtain ⟨Y,capy,rfl,-,-,-⟩:=hy.opened;obtain ⟨Z,capz,rfl,-,-,-⟩:=hz.opened;have HCX:=hid hcX;obtain ⟨lc,hlc⟩:∃ x,m.classes=x:=⟨_,rfl⟩;rw [hlc] at HXI hcapx HCX hm hl ⊢;obtain ⟨lo,hlo⟩:∃ x,m.outside.length=x:=⟨_,rfl⟩;obtain ⟨li,hli⟩:∃ x,m.inflow.length=x:=⟨_,rfl⟩;rw [hlo,hli];have HLK:Hid (∀ (W:World) (k:Nat),Ext w W -> (Instr.lookup 245 (.map (some b)) (.string (Q6q (lc.take k))) false).run Tryz.prog W=.ok (.bool (Tw.look p (lc.take k))) W):=hid (fun W k hW=>by
  have h:=Y1h (P:=Tryz.prog) (hM.ext hW) J1u J6c (J4z _) (Q6q (lc.take k)) false;rw [if_neg (by simp),Y5t hn hd (Q5n hm k)] at h
  exact h)
 have HDG:=hid hm;have HBC:=hid hB;clear hx hy hz hcX hM hn hd hm hlc hlo hli hB;go_enter Tryz.func168,Tryz.ntmps168;go_wp2_with fail;change Code.wp _ _ _ _ (w.alloc (.cells #[.string m.name,.int .i64 m.weight,.slice X lc.length capx,.slice Y lo capy,.slice Z li capz] 69));obtain ⟨W,hWW,k0,HXW,eW⟩:=Q1u w 69 #[.string m.name,.int .i64 m.weight,.slice X lc.length capx,.slice Y lo capy,.slice Z li capz];rw [hWW];clear hWW;have K0:=hid k0;have c0_2:=k0.cell 2;simp only [Go.Tw.gA,Go.Tw.gB,Go.Tw.gC] at c0_2;obtain ⟨gm,hgm⟩:∃ x,w.heap.size=x:=⟨_,rfl⟩;rw [hgm] at K0 eW c0_2 ⊢;clear k0;go_wp2;clear c0_2
 go_loopw [4,9] (fun o i wr=>∃ k:Nat,k <= lc.length /\ i=.int .i64 k /\ Q0m wr W.heap.size 4 .bool o (X6h p lc k) /\ Ext W wr) (fun _ i _=>lc.length - (intOf i).toNat)
 case atStart=>exact ⟨0,Nat.zero_le _,rfl,Q0m.nil _ _ _ _,Ext.refl _⟩
 case round =>
  obtain ⟨k,hk,rfl,hown,hxr⟩:=hrel;obtain ⟨Ao,co,rfl,-⟩:=hown.shape;have hol:=Z3t p lc k
  by_cases hlt:k < lc.length
  . obtain ⟨bc,oc,hXe,-⟩:=HCX.out k hlt
    subst hXe;have HXR:=hid hxr;have HOW:=hid hown;have hkI:(k:Int) < lc.length:=by omega
    have hkc:k + 1 <= capx:=by omega
    have hkcI:(k:Int) + 1 <= (capx:Int):=by omega
    have hkc1:¬ ((0:Int) <= (k:Int) + 1 -> (capx:Int) < (k:Int) + 1):=by omega
    have hkc2:¬ capx=0:=by omega
    have hkc4:¬ (k:Int) + 1 < 0:=by omega
    have hkc3:((k:Int) + 1).toNat=k + 1:=by omega
    have hwk:IntKind.i64.wrap ((k:Int) + 1)=(k:Int) + 1:=Q2h _ (by omega) (by omega)
    have HSUC:=hid (Y9q p lc k);have HPRE:Hid (Q0e w (.slice (some ⟨bc,oc,none⟩) (k + 1) capx) (lc.take (k + 1))):=hid (Q9q HXI.out (by omega))
    have HPL:Hid ((lc.take (k + 1)).length <= 4096):=hid (by rw [List.length_take]; omega)
    have HPD:=hid (Q5n HDG.out (k + 1));have HL1:=hid (fun W hW=>HLK.out W (k + 1) hW);obtain ⟨lp,hlp⟩:∃ x,lc.take (k + 1)=x:=⟨_,rfl⟩;rw [hlp] at HSUC HPRE HPL HPD HL1;obtain ⟨q,hq⟩:∃ x,Tw.look p lp=x:=⟨_,rfl⟩;rw [hq] at HSUC HL1;have hol2:(X6h p lc k).length + 1 <= 4398046511104:=by omega
    obtain ⟨xs,hxs⟩:∃ x,X6h p lc k=x:=⟨_,rfl⟩;rw [hxs] at HOW hol hol2 HSUC ⊢;have HOL:=hid hol;have HOL2:=hid hol2;have hdr:=(Ext.refl wr).drew;clear hown hlp hq hxr hol hol2 hxs
    go_light
    go_wp2;refine Flow.Q4c [.p,.w,.p,.w,.p,.p,.p,.w,.w,.w,.last,.last] [0,1,2,3,4,5,6,7,8,9,10,11] [[],[],[],[2],[],[4],[2,3,4,5],[2,3,4,5,6],[1,2,3,4,5,6,7],[1,2,3,4,5,6,7,8],[0,1,2,3,4,5,6,7,8,9],[0,1,2,3,4,5,6,7,8,9,10]] [10,11]
     [.c 0 (.slice Ao xs.length co),.c 1 (.map (some b)),.c 2 (.pointer (some ⟨gm,2,none⟩)),.c 3 (.slice (some ⟨bc,oc,none⟩) lc.length capx),.c 4 (.int .i64 (k:Int)),.c 5 (.int .i64 ((k:Int) + 1)),.c 6 (.slice (some ⟨bc,oc,none⟩) (k + 1) capx),.c 7 (.string (Q6q lp)),.c 8 (.bool q),⟨fun v wz=>(fun v w'=>Q2y w' (v 9) (.bool q)) v wz,fun _ _ _ hx h=>Q2y.ext h hx⟩,.none,.none]
     [fun v w1 w'=>Q0m w' W.heap.size 4 .bool (v 10) (xs ++ [q]) /\ w1.grownBy w' (Value.slice Ao xs.length co).ownBlock,fun v w1 w'=>v 11=v 10 /\ Q0m w' W.heap.size 4 .bool (v 10) (xs ++ [q]) /\ w1.grownBy w' (Value.slice Ao xs.length co).ownBlock] (by kernel_rfl) rfl (by kernel_rfl) ⟨?g0,?g1,?g2,?g3,?g4,?g5,?g6,?g7,?g8,?g9,?g10,?g11,trivial⟩ ?post
    case g0 | g2 | g4=>
     intro v w1 hx;intro bb hbb;subst hbb;refine ⟨_,fun w=>?_,rfl⟩;go_simp
    case g1=>
     intro v w1 hx;intro bb hbb;subst hbb;have n0:w1.cell? ⟨B,0,none⟩=some (.map (some b)):=(HXW.out.trans (HXR.out.trans (hdr.trans hx))).cell HBC.out;intro K hK;go_simp;exact hK _ _ (Ext.refl _) rfl
    case g3=>
     intro v w1 hx;(repeat intro (zq:v _=_));intro bb hbb;subst hbb;have n0:w1.cell? ⟨gm,2,none⟩=some (.slice (some ⟨bc,oc,none⟩) lc.length capx):=(K0.out.ext (HXR.out.trans (hdr.trans hx))).cell 2;intro K hK;go_simp;exact hK _ _ (Ext.refl _) rfl
    case g5 | g6=>
     intro v w1 hx;(repeat intro (zq:v _=_));intro bb hbb;subst hbb;refine ⟨_,fun w=>?_,rfl⟩;go_simp
    case g7=>
     intro v w1 hx;(repeat intro (zq:v _=_));intro bb hbb;subst hbb;intro K hK;go_simp;refine Q0d (Y4j w1 _ lp (HPRE.out.ext (HXW.out.trans (HXR.out.trans (hdr.trans hx)))) HPL.out HPD.out) ?_;rintro e w2 ⟨rfl,hx2⟩;exact ⟨_,rfl,hK _ _ hx2 rfl⟩
    case g8=>
     intro v w1 hx;(repeat intro (zq:v _=_));intro bb hbb;subst hbb;have hlk:=HL1.out w1 (HXW.out.trans (HXR.out.trans (hdr.trans hx)));intro K hK;go_simp;exact hK _ _ (Ext.refl _) rfl
    case g9=>
     intro v w1 hx;(repeat intro (zq:v _=_));intro bb hbb;subst hbb;intro K hK;go_simp;exact hK _ _ (Ext.box _ _) (Q2y.made _ _ _)
    case g10=>
     intro v w1 hx (q0:v 0=_) (q1:v 1=_) (q2:v 2=_) (q3:v 3=_) (q4:v 4=_) (q5:v 5=_) (q6:v 6=_) (q7:v 7=_) (q8:v 8=_) (q9:(fun v w'=>Q2y w' (v 9) (.bool q)) v w1);intro wl hT;obtain rfl:wl=w1:=hT;intro bb hbb;intro K hK;have o1:bb.eval (.tmp 12)=.slice Ao xs.length co:=by rw [hbb]; dsimp only; (try simp (discharger:=decide) only [eval_put_ne]); rw [Q0a (by exact (by decide:12 < 25))]; exact q0
     have o2:bb.eval (.tmp 21)=v 9:=by rw [hbb]; dsimp only; (try simp (discharger:=decide) only [eval_put_ne]); rw [Q0a (by simp only [size_put]; exact (by decide:21 < 25))]
     refine Q1n _ _ 82 rfl W.heap.size 4 i0 (.bool false) 1 Tryz.underlying82 hi hz0 hz1 hz2 rfl .bool (.slice Ao xs.length co) (v 9) xs [q] o1 (HOW.out.below (hdr.trans hx)) o2 (J2v q9) (fun y hy=>rfl) (by have:=HOL2.out; rw [List.length_singleton]; exact this) (by decide) (by have:=HXR.out.size; have:=hx.size; have:wr.drew.heap.size=wr.heap.size:=rfl; omega) (fun v' w' hown hg=>hK _ _ ⟨hown,hg⟩)
    case g11=>
     intro v w1 hx (q0:v 0=_) (q1:v 1=_) (q2:v 2=_) (q3:v 3=_) (q4:v 4=_) (q5:v 5=_) (q6:v 6=_) (q7:v 7=_) (q8:v 8=_) _;intro wl hT;replace hT:(fun v w1 w'=>Q0m w' W.heap.size 4 .bool (v 10) (xs ++ [q]) /\ w1.grownBy w' (Value.slice Ao xs.length co).ownBlock) v w1 wl:=hT;intro bb hbb;subst hbb;intro K hK;go_simp;exact hK _ _ ⟨rfl,hT⟩
    case post =>
     intro v w1 hx;(iterate 9 intro (zq:v _=_));intro (q9:(fun v w'=>Q2y w' (v 9) (.bool q)) v w1);intro w2 hE;replace hE:(fun v w1 w'=>v 11=v 10 /\ Q0m w' W.heap.size 4 .bool (v 10) (xs ++ [q]) /\ w1.grownBy w' (Value.slice Ao xs.length co).ownBlock) v w1 w2:=hE;simp only [Flow.acts,Act.put];go_simp;obtain ⟨_,hown',hgrow⟩:=hE;have hxx:=HXR.out.trans (hdr.trans hx);have hx9:Ext W w2:=Below.grown hxx hgrow hxx.size (fun b hb=>by
      have h1:=HOW.out;obtain ⟨_,h2⟩:=h1
      rcases h2 with ⟨h2,_⟩ | ⟨g,c,cur,h2,hbg,_⟩
      . rw [h2] at hb; cases hb
      . rw [h2] at hb; cases hb; exact hbg)
     have HX9:=hid hx9;have HO9:=hid hown';clear hx hdr hx9 hown' hgrow hxx q9;(repeat clear zq);go_wp2;go_roundw
     case rel=>exact ⟨k + 1,by omega,by go_num,by rw [HSUC.out]; exact HO9.out,HX9.out⟩
     case measure=>simp [intOf]; omega
  . have hke:k=lc.length:=by omega
    subst hke;have HOW:=hid hown;have HXR:=hid hxr;clear hown hxr;go_wp2;go_ret;exact ⟨_,rfl,HOW.out.weaken (by omega),HXW.out.trans HXR.out⟩
def Q3j (s:Q0b) (p:List Rul):List (List Bool):=s.members.map fun m=>Q0i p m.classes
theorem Q6y {s:Q0b} (p:List Rul) {k:Nat} (hk:k < s.members.length):(Q3j s p).getD k []=Q0i p (Q0c s.members k):=by
 unfold Q3j Q0c;simp [hk]
theorem Q3l (s:Q0b) (p:List Rul):(Q3j s p).length=s.members.length:=by simp [Q3j]
theorem Y7y {s:Q0b} (p:List Rul) {k:Nat} (hk:k < s.members.length):(Q3j s p).take (k + 1)=(Q3j s p).take k ++ [Q0i p (Q0c s.members k)]:=by
 rw [List.take_succ_eq_append_getElem (by rw [Q3l]; exact hk)]
 unfold Q3j Q0c;simp [hk]
theorem Tryz.Z7h:(Tryz.prog.info? 82).map (fun i=>(i.zero,i.size,i.bytes))=some (some (.slice none 0 0),1,24):=by kernel_rfl
theorem Y0r (w:World) (v:Value) (s:Q0b) (p:List Rul) (B b:Nat) (hv:X0b w v s.members) (hS:Q0u s) (hn:(p.map Rul.classes).Nodup) (hd:∀ k,k < p.length -> Digits (Q0n p k))
    (hB:w.cell? ⟨B,0,none⟩=some (.map (some b))) (hM:Q6c w b (Q7j p p.length)) :
    Calls Tryz.prog 167 #[v,.func (.func 168) #[] #[.pointer (some ⟨B,0,none⟩)]] w fun e w'=>∃ x vs,e=.returned x /\ Q0m w' w.heap.size 82 idV x vs /\ X0w w' 4 .bool vs (Q3j s p) /\ Ext w w':=by
 obtain ⟨i0,hi,hz0,hz1,hz2⟩:=info_parts Tryz.Z7h;have h8:=hS.some;have h6:=hS.tides;have HS:=hid hS;have HV:=hid hv;obtain ⟨V,capv,rfl,-,-,-⟩:=hv.opened;have HCL:Hid (∀ (W:World) (u:Value) (k:Nat),Ext w W -> k < s.members.length -> X3f W u (Q1q s k) -> Calls Tryz.prog 168 #[u,.pointer (some ⟨B,0,none⟩)] W fun e w'=>∃ x,e=.returned x /\ Q0m w' W.heap.size 4 .bool x (Q0i p (Q0c s.members k)) /\ Ext W w') :=
  hid (fun W u k hW hk hu=>Y1k W u (Q1q s k) p B b hu hn hd (hS.digits k hk) (by have:=(hS.shaped k hk).1; show (Q0c s.members k).length <= 8; omega) (hW.cell hB) (hM.ext hW))
 clear hv hn hd hB hM hS;go_enter Tryz.func167,Tryz.ntmps167;go_wp2
 go_loopw [5,10] (fun o i wr=>∃ (k:Nat) (vs:List Value),k <= s.members.length /\ i=.int .i64 k /\ Q0m wr w.heap.size 82 idV o vs /\ X0w wr 4 .bool vs ((Q3j s p).take k) /\ Ext w wr) (fun _ i _=>s.members.length - (intOf i).toNat)
 case atStart=>exact ⟨0,[],Nat.zero_le _,rfl,Q0m.nil _ _ _ _,X0w.nil _ _ _,Ext.refl _⟩
 case round =>
  obtain ⟨k,vs,hk,rfl,hown,hrows,hxr⟩:=hrel;have hvl:vs.length=k:=by have:=hrows.1; rw [List.length_take,Q3l] at this; omega
  have HXR:=hid hxr
  by_cases hlt:k < s.members.length
  . have H3:=HV.out.ext hxr
    obtain ⟨_,_,hVe,_,_,hc⟩:=H3.opened;cases hVe;obtain ⟨bm,off,x,y,z,rfl,hbm,e0,e1,e2,e3,e4,hx,hy,hz,hsh⟩:=hc k hlt;have HX1:=hid hx;have HX2:=hid hy;have HX3:=hid hz;obtain ⟨X,capx,rfl,-,-,-⟩:=hx.opened;obtain ⟨Y,capy,rfl,-,-,-⟩:=hy.opened;obtain ⟨Z,capz,rfl,-,-,-⟩:=hz.opened;have HSUC:=hid (Y7y p hlt);have HCK:=hid (fun W u hW hu=>HCL.out W u k hW hlt hu);have HME:Hid (∀ W,Ext wr W -> X3f W (.agg #[.string (Q1o s.members k),.int .i64 (Q0k s.members k),.slice X (Q0c s.members k).length capx,.slice Y (Q0z s.members k).length capy,.slice Z (Q1f s.members k).length capz]) (Q1q s k)) :=
     hid (fun W hW=>⟨_,_,_,rfl,HX1.out.ext hW,HX2.out.ext hW,HX3.out.ext hW⟩)
    have HLE:Hid ((Q0i p (Q0c s.members k)).length <= 4096):=hid (by rw [Q1p,(HS.out.shaped k hlt).1]; omega)
    obtain ⟨nm,hnm⟩:∃ x,Q1o s.members k=x:=⟨_,rfl⟩;obtain ⟨wt,hwt⟩:∃ x,Q0k s.members k=x:=⟨_,rfl⟩;obtain ⟨lc,hlc⟩:∃ x,Q0c s.members k=x:=⟨_,rfl⟩;obtain ⟨lo,hlo⟩:∃ x,Q0z s.members k=x:=⟨_,rfl⟩;obtain ⟨li,hli⟩:∃ x,Q1f s.members k=x:=⟨_,rfl⟩;rw [hnm] at e0 HME;rw [hwt] at e1 HME;rw [hlc] at e2 HME HSUC HCK HLE;rw [hlo] at e3 HME;rw [hli] at e4 HME;obtain ⟨cl,hcl⟩:∃ x,Q0i p lc=x:=⟨_,rfl⟩;rw [hcl] at HSUC HCK HLE;have hkI:(k:Int) < s.members.length:=by omega
    have hbox:=Ext.box wr (.cells #[.string nm,.int .i64 wt,.slice X lc.length capx,.slice Y lo.length capy,.slice Z li.length capz] 69);have K3:=Blk.made wr 69 #[.string nm,.int .i64 wt,.slice X lc.length capx,.slice Y lo.length capy,.slice Z li.length capz];have d0:=(K3).cell 0;have d1:=(K3).cell 1;have d2:=(K3).cell 2;have d3:=(K3).cell 3;have d4:=(K3).cell 4;simp only [Go.Tw.gA,Go.Tw.gB,Go.Tw.gC] at d0 d1 d2 d3 d4;have HXB:=hid hbox;have HO:=hid hown;have HRO:=hid hrows;have hll:vs.length <= 4096:=by omega
    clear hc H3 hx hy hz hsh hnm hwt hlc hlo hli hcl hbm hbox K3 hown hrows hxr
    go_light
    go_wp2_with (first | (refine (HCK.out _ _ (HXR.out.trans HXB.out) (HME.out _ HXB.out)).mono ?_; rintro e w5 ⟨u,rfl,hu,hx5⟩; obtain ⟨bu,cu,rfl,-⟩:=hu.shape; have HU:=hid hu; have HX5:=hid (HXB.out.trans hx5); have hown:=HO.out.below HX5.out; have hx6:=HXR.out.trans HX5.out; clear hu hx5) | (at_builtin; refine wpList_append_own _ rfl _ _ 179 rfl (w.heap.size) 82 i0 (.slice none 0 0) 1 24 Tryz.underlying179 hi hz0 hz1 hz2 rfl (by decide) _ _ _ rfl (World.ownsRow.alloc hown _) ⟨w5.heap.size,0,none⟩ 1 1 [.slice bu cl.length cu] rfl rfl ?_ ?_ ?_ ?_ ?_ ?_; exact Q3i _ _ _; (focus (simp [Value.oneCell'])); (focus (unfold maxLen; omega)); (focus omega); (focus (have:=hx6.size; simp at this ⊢; omega)); intro v' w1 hown' hgrow _))
    have hx':=Q2e hx6 hown (Nat.le_refl _) hgrow;have hbx:=Ext.box w5 (.cells #[.slice bu cl.length cu] 82);have hs5:=((((HRO.out.ext HX5.out).snoc HU.out).ext hbx)).grown (hown.below hbx) (by decide) hgrow
    have HS5:=hid hs5;clear hs5;go_wp2;go_roundw
    case rel=>exact ⟨k + 1,vs ++ [.slice bu cl.length cu],by omega,by go_num,Q0m.snoc (x:=Value.slice bu cl.length cu) hown',by rw [HSUC.out]; exact HS5.out,hx'⟩
    case measure=>simp [intOf]; omega
  . have hke:k=s.members.length:=by omega
    have HF:Hid ((Q3j s p).take k=Q3j s p):=hid (List.take_of_length_le (by rw [Q3l]; omega))
    have HO:=hid hown;have HRO:=hid hrows;clear hown hrows hxr;go_wp2;go_ret;exact ⟨_,vs,rfl,HO.out,by rw [<- HF.out]; exact HRO.out,HXR.out⟩
end Go.Proofs
namespace Go.Proofs
open Go.RowKit Go.Tw Go.Flow
attribute [local go_sem] Oper.semAt_some
theorem Z7j {P:Program} {K:Value -> World -> Prop} {o:Oper} {a:Act} {w w':World} {t:TypeId} (m k x:Operand) (ho:o.op=.mapUpdate t m k x) {mv kv xv:Value} (hm:a.eval m=mv) (hk:a.eval k=kv) (hx:a.eval x=xv)
    (hr:(Instr.mapUpdate t mv kv xv).run P w=.ok () w') (h:∀ v,K v w'):gives P K ((execOp a.eval o).run P w):=by
 unfold execOp;simp only [ho,hm,hk,hx,Sem.run_bind,Sem.run_pure,Result.andThen_ok,hr];exact h _
theorem X9w {s:Q0b} (hS:Q0u s):∀ h ∈ s.hist,Digits h:=fun h hh=>by
 obtain ⟨t,ht,k,hk,rfl⟩:=(Q0b.Q4h _ _).1 hh;exact Q5n (hS.digits k hk) _
theorem Z1h {s:Q0b} (hS:Q0u s) {p:List Rul} (hp:Q1c s.hist p=0):(p.map Rul.classes).Nodup:=by
 rw [Q2l.1 hp]; exact Y8b (Q0b.Y3z hS.shaped)
theorem Y5x {s:Q0b} (hS:Q0u s) {p:List Rul} (hp:Q1c s.hist p=0):∀ k,k < p.length -> Digits (Q0n p k):=fun k hk=>by
 rw [Q8h hk];exact X9w hS _ (by rw [<- Q2l.1 hp]; exact List.mem_map_of_mem (List.getElem_mem hk))
theorem Y7t {s:Q0b} (hS:Q0u s):∀ h ∈ s.hist,h.length <= 6:=fun h hh=>by
 obtain ⟨t,ht,k,hk,rfl⟩:=(Q0b.Q4h _ _).1 hh;have:=hS.tides.2;rw [List.length_take]; omega
theorem Z3r {s:Q0b} (hS:Q0u s) {p:List Rul} (hp:Q1c s.hist p=0):∀ k,k < p.length -> (Q0n p k).length <= 6:=fun k hk=>by
 rw [Q8h hk];exact Y7t hS _ (by rw [<- Q2l.1 hp]; exact List.mem_map_of_mem (List.getElem_mem hk))
theorem Q7e (w:World) (v u:Value) (s:Q0b) (p:List Rul) (hv:Q0f w v s) (hu:Q0j w u p) (hS:Q0u s) (hp:Q1c s.hist p=0) :
    Calls Tryz.prog 109 #[v,u] w fun e w'=>∃ x,e=.returned x /\ Q4g w' x (Q3j s p) /\ Ext w w':=by
 have h8:=hS.some;have HCLB:=hid (fun i (hi:i < (Q3j s p).length)=>(show ((Q3j s p).getD i []).length <= 17592186043904 by
  rw [Q3l] at hi;rw [Q6y p hi,Q1p,(hS.shaped i hi).1];have:=hS.tides.2; omega))
 have HND:=hid (Z1h hS hp);have HDI:=hid (Y5x hS hp);have HL8:=hid (Z3r hS hp);have HS:=hid hS;obtain ⟨a,b,rfl,h2⟩:=hv;obtain ⟨rv,rfl,hr⟩:=hu;obtain ⟨A,capa,rfl,-,-,-⟩:=h2.ships.opened;obtain ⟨M,capb,rfl,-,-,-⟩:=h2.members.opened;have HRU:=hid hr;obtain ⟨R,capr,rfl,-,-,-⟩:=hr.opened;have H2:=hid h2;clear h2 hr hS hp;go_enter Tryz.func109,Tryz.ntmps109;go_upto_region 1 with fail;change Code.wp _ _ _ _ ((w.alloc (.cells #[.int .i64 s.limit,.slice A s.ships.length capa,.slice M s.members.length capb] 34)).alloc (.cells #[.slice R p.length capr] 38));obtain ⟨W,hWW,k0,k1,HXW,eW⟩:=Q2t w 34 #[.int .i64 s.limit,.slice A s.ships.length capa,.slice M s.members.length capb] 38 #[.slice R p.length capr];rw [hWW];clear hWW;have hmm:=@run_makeMap Tryz.prog;have hb0:=Ext.box W (.map #[] 0);have hb1:=Ext.box (W.alloc (.map #[] 0)) (.cells #[.map (some (w.heap.size + 1 + 1))] 245);have m0:=(Q6c.made W).ext hb1;rw [eW] at m0;have kb:=Blk.made (W.alloc (.map #[] 0)) 245 #[.map (some (w.heap.size + 1 + 1))];have es:(W.alloc (.map #[] 0)).heap.size=W.heap.size + 1:=by simp
 have es2:((W.alloc (.map #[] 0)).alloc (.cells #[.map (some (w.heap.size + 1 + 1))] 245)).heap.size=W.heap.size + 1 + 1:=by simp
 rw [es,eW] at kb;rw [eW] at es2;have KS:=k0.ext (hb0.trans hb1);have KP:=k1.ext (hb0.trans hb1);have n1:=KP.cell 0;simp only [Go.Tw.gA,Go.Tw.gB] at n1;go_wp2;obtain ⟨V,hV⟩:∃ V,(W.alloc (.map #[] 0)).alloc (.cells #[.map (some (w.heap.size + 1 + 1))] 245)=V:=⟨_,rfl⟩;have hxV:Ext w V:=HXW.out.trans (by rw [<- hV]; exact hb0.trans hb1)
 rw [hV] at m0 kb KS KP es2 ⊢;obtain ⟨b,hb⟩:∃ b,w.heap.size + 1 + 1=b:=⟨_,rfl⟩;rw [hb] at m0 kb es2 ⊢;have hwb:w.heap.size < b:=by omega
 have hwb1:w.heap.size + 1 < b:=by omega
 obtain ⟨gs,hgs⟩:∃ x,w.heap.size=x:=⟨_,rfl⟩;have HGS:=hid hgs;rw [hgs] at KS KP hwb hwb1 ⊢;have HKS:=hid KS;have HXV:=hid hxV;have HM0:=hid m0;have HKB:=hid kb;have HVS:=hid es2;clear hb0 hb1 m0 kb es es2 KS KP n1 hV hxV hb eW HXW k0 k1 hgs hmm
 go_loopw [12] (fun i wr=>∃ k:Nat,k <= p.length /\ i=.int .i64 k /\ Q6c wr b (Q7j p k) /\ Blk wr (b + 1) 245 #[.map (some b)] /\ Below b V wr) (fun i _=>p.length - (intOf i).toNat)
 case atStart=>exact ⟨0,Nat.zero_le _,rfl,HM0.out,HKB.out,Below.refl _ _⟩
 case round =>
  obtain ⟨k,hk,rfl,hmap,hblk,hbel⟩:=hrel;have HMP:=hid hmap;have HBL:=hid hblk;have HBE:=hid hbel
  by_cases hlt:k < p.length
  . obtain ⟨_,_,hRe,_,_,hc⟩:=HRU.out.opened
    cases hRe;obtain ⟨br,orr,xr,rfl,hbr,hx0,hx1,hxi⟩:=hc k hlt;have hbr':br < b:=by have:=HGS.out; omega
    have hy0:=(hbel.cell (p:=⟨br,orr + k * 2,none⟩) hbr').trans (HXV.out.cell hx0);have hy1:=(hbel.cell (p:=⟨br,orr + k * 2 + 1,none⟩) hbr').trans (HXV.out.cell hx1);obtain ⟨Xr,cxr,rfl,-,-,-⟩:=hxi.opened;have hwr:Below w.heap.size w wr:=Below.trans HXV.out (hbel.mono (by have:=HGS.out; omega))
    have HIW:=hid (hxi.ext hwr);have HDK:=hid (HDI.out k hlt);have HLK:Hid ((Q0n p k).length <= 4096):=hid (by have:=HL8.out k hlt; omega)
    have HSUC:Hid (Q7j p (k + 1)=Z2e (Q6q (Q0n p k)) (.bool (Q3v p k)) (Q7j p k)):=hid rfl;obtain ⟨lc,hlc⟩:∃ x,Q0n p k=x:=⟨_,rfl⟩;obtain ⟨cb,hcb⟩:∃ x,Q3v p k=x:=⟨_,rfl⟩;obtain ⟨L,hL⟩:∃ x,Q7j p k=x:=⟨_,rfl⟩;rw [hlc] at hy0 HIW HDK HLK HSUC;rw [hcb] at hy1 HSUC;rw [hL] at HMP HSUC;have hkI:(k:Int) < p.length:=by omega
    have hxb:=Ext.box wr (.cells #[.slice Xr lc.length cxr,.bool cb] 167);have kr:=Blk.made wr 167 #[.slice Xr lc.length cxr,.bool cb];have HXB:=hid hxb;have hwlt:b + 1 < wr.heap.size:=hblk.lt;clear hc hx0 hx1 hxi hwr hlc hcb hL hmap hblk hbel hbr hbr' hxb
    go_light
    go_wp2;obtain ⟨W5,hW5⟩:∃ X,wr.alloc (.cells #[.slice Xr lc.length cxr,.bool cb] 167)=X:=⟨_,rfl⟩;obtain ⟨g,hg⟩:∃ x,wr.heap.size=x:=⟨_,rfl⟩;rw [hW5] at HXB kr ⊢;rw [hg] at kr hwlt ⊢;have KR:=hid kr;have hdr:=(Ext.refl W5).drew;clear hW5 kr hy0 hy1 hg;refine Flow.Q4c [.w,.p,.w,.w,.p,.w,.last] [0,1,2,3,4,5,6] [[],[],[1],[1,2],[],[4],[0,1,2,3,4,5]] [6]
     [.c 0 (.map (some b)),.c 1 (.pointer (some ⟨g,0,none⟩)),.c 2 (.slice Xr lc.length cxr),.c 3 (.string (Q6q lc)),.c 4 (.pointer (some ⟨g,1,none⟩)),.c 5 (.bool cb),.none]
     [fun v w1 w'=>Q6c w' b (Z2e (Q6q lc) (.bool cb) L) /\ (∀ n,n <= b -> Below n w1 w') /\ w1.grownBy w' (some b)] (by kernel_rfl) rfl (by kernel_rfl) ⟨?g0,?g1,?g2,?g3,?g4,?g5,?g6,trivial⟩ ?post
    case g0=>
     intro v w1 hx;intro bb hbb;subst hbb;have n0:w1.cell? ⟨b + 1,0,none⟩=some (.map (some b)):=(HBL.out.ext (HXB.out.trans (hdr.trans hx))).cell 0;intro K hK;go_simp;exact hK _ _ (Ext.refl _) rfl
    case g1 | g4=>
     intro v w1 hx;intro bb hbb;subst hbb;refine ⟨_,fun w=>?_,rfl⟩;go_simp
    case g2 | g5=>
     intro v w1 hx;(repeat intro (zq:v _=_));intro bb hbb;subst hbb;have n0:w1.cell? ⟨g,0,none⟩=some (.slice Xr lc.length cxr):=(KR.out.ext (hdr.trans hx)).cell 0;have n1:w1.cell? ⟨g,1,none⟩=some (.bool cb):=(KR.out.ext (hdr.trans hx)).cell 1;intro K hK;go_simp;exact hK _ _ (Ext.refl _) rfl
    case g3=>
     intro v w1 hx;(repeat intro (zq:v _=_));intro bb hbb;subst hbb;intro K hK;go_simp;refine Q0d (Y4j w1 _ lc (HIW.out.ext (HXB.out.trans (hdr.trans hx))) HLK.out HDK.out) ?_;rintro e w2 ⟨rfl,hx2⟩;exact ⟨_,rfl,hK _ _ hx2 rfl⟩
    case g6=>
     intro v w1 hx;(repeat intro (zq:v _=_));intro wl hT;obtain rfl:wl=w1:=hT;intro bb hbb;intro K hK;have o1:bb.eval (.tmp 16)=.map (some b):=by rw [hbb]; dsimp only; (try simp (discharger:=decide) only [eval_put_ne]); rw [Q0a (by exact (by decide:16 < 27))]; assumption
     have o2:bb.eval (.tmp 19)=.string (Q6q lc):=by rw [hbb]; dsimp only; (try simp (discharger:=decide) only [eval_put_ne]); rw [Q0a (by simp only [size_put]; exact (by decide:19 < 27))]; assumption
     have o3:bb.eval (.tmp 21)=.bool cb:=by rw [hbb]; dsimp only; (try simp (discharger:=decide) only [eval_put_ne]); rw [Q0a (by simp only [size_put]; exact (by decide:21 < 27))]; assumption
     obtain ⟨w2,hput,hm2,hb2,hg2⟩:=Y9w (P:=Tryz.prog) (HMP.out.ext (HXB.out.trans (hdr.trans hx))) J1u J6c (Q6q lc) (.bool cb);exact Z7j (.tmp 16) (.tmp 19) (.tmp 21) rfl o1 o2 o3 hput (fun vv=>hK _ _ ⟨hm2,hb2,hg2⟩)
    case post =>
     intro v w1 hx;(iterate 6 intro (zq:v _=_));intro w2 hE;replace hE:(fun v w1 w'=>Q6c w' b (Z2e (Q6q lc) (.bool cb) L) /\ (∀ n,n <= b -> Below n w1 w') /\ w1.grownBy w' (some b)) v w1 w2:=hE;simp only [Flow.acts,Act.put];go_simp;obtain ⟨hm2,hb2,hg2⟩:=hE;have hxx:=HXB.out.trans (hdr.trans hx);have hbl1:=HBL.out.ext hxx;have hbl2:Blk w2 (b + 1) 245 #[.map (some b)]:=by
      unfold Blk at hbl1 ⊢;rw [hg2.block (b + 1) (Array.getElem?_eq_some_iff.1 hbl1).1 (by intro e; injection e with e; omega)]
      exact hbl1
     have hbe2:Below b V w2:=Below.trans HBE.out (Below.trans (hxx.mono (by have:=HBL.out.lt; omega)) (hb2 b (Nat.le_refl _)))
     have HM2:=hid hm2;have HB2:=hid hbl2;have HE2:=hid hbe2;clear hx hdr hm2 hb2 hg2 hxx hbl1 hbl2 hbe2;(repeat clear zq);go_wp2;go_roundw
     case rel=>exact ⟨k + 1,by omega,by go_num,by rw [HSUC.out]; exact HM2.out,HB2.out,HE2.out⟩
     case measure=>simp [intOf]; omega
  . have hke:k=p.length:=by omega
    subst hke;have ks:=HKS.out.below hbel hwb;have c2:=ks.cell 2;simp only [Go.Tw.gA,Go.Tw.gB,Go.Tw.gC] at c2;have hwr:Ext w wr:=Below.trans HXV.out (hbel.mono (by have:=HGS.out; omega))
    have HMC:=hid (Y0r wr _ s p (b + 1) b (H2.out.members.ext hwr) HS.out HND.out HDI.out (hblk.cell 0) hmap);have HWR:=hid hwr;clear ks hmap hblk hbel hwr;go_wp2_with (go_at_call 167; refine HMC.out.mono ?_; rintro e w5 ⟨x,vs,rfl,hx1,hx2,hx5⟩; have HXX:=hid hx1; have HRR:=hid hx2; have HX5:=hid hx5; clear hx1 hx2 hx5);go_ret;exact ⟨x,rfl,Q0m.J5s HXX.out (HRR.out.J6e HCLB.out) (by rw [Q3l]; omega),HWR.out.trans HX5.out⟩
end Go.Proofs
