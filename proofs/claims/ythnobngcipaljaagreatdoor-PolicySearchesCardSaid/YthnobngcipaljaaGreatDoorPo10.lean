/- Maps with string keys that a call makes, as lists of pairs: look-ups and stores. Plain law: the rules of a policy as a map from keys to closings. Contracts: key. Contracts: closings (of the program): the map of the rules, and what it says for each member. Contracts: closings (of the program). -/
import Derived.Test.YthnobngcipaljaaGreatDoorPo03
import Derived.Maps.OwnSet
import Derived.MapKept
import Derived.Test.YthnobngcipaljaaGreatDoorPo09
import Derived.Test.YthnobngcipaljaaGreatDoorPo07
import Derived.Laws.BytesArg
import Derived.Test.YthnobngcipaljaaGreatDoorPo08
set_option maxRecDepth 1000000
set_option maxHeartbeats 64000000
set_option linter.unusedVariables false
set_option linter.unusedSimpArgs false
set_option linter.constructorNameAsVariable false
namespace Go.Tw
open Go.RowKit Go.Flow
def X1u (s:ByteArray):List (ByteArray × Value) -> Option Value
 | []=>none
 | p :: l=>if (s == p.1) = true then some p.2 else X1u s l
def Z0m (s:ByteArray) (v:Value):List (ByteArray × Value) -> List (ByteArray × Value)
 | []=>[(s,v)]
 | p :: l=>if (s == p.1) = true then (s,v) :: l else p :: Z0m s v l
def Q5n (w:World) (b:Nat) (l:List (ByteArray × Value)):Prop :=
 ∃ a clock,w.heap[b]? = some (.map a clock) /\ a.toList.map (fun e=>(e.key,e.val)) = l.map fun p=>(Value.string p.1,p.2)
theorem Q5n.made (w:World):Q5n (w.alloc (.map #[] 0)) w.heap.size []:=⟨#[],0,by show (w.heap.push _)[w.heap.size]? = _; simp,rfl⟩
theorem Q5n.ext {w w':World} {b:Nat} {l:List (ByteArray × Value)} (h:Q5n w b l) (hx:Ext w w'):Q5n w' b l:=by
 obtain ⟨a,c,hb,he⟩:=h;exact ⟨a,c,by rw [Below.block hx b (Array.getElem?_eq_some_iff.1 hb).1]; exact hb,he⟩
theorem Q5n.lt {w:World} {b:Nat} {l:List (ByteArray × Value)} (h:Q5n w b l):b < w.heap.size:=by
 obtain ⟨a,c,hb,_⟩:=h;exact (Array.getElem?_eq_some_iff.1 hb).1
theorem X7p (s:ByteArray):∀ (es:List MapEntry) (l:List (ByteArray × Value)) (i:Nat),es.map (fun e=>(e.key,e.val)) = l.map (fun p=>(Value.string p.1,p.2)) ->
    ∃ r,Instr.findNow .string (.string s) es i = some r /\ r.map (·.2) = X1u s l
 | [],[],i,_=>⟨none,rfl,rfl⟩
 | [],_ :: _,_,h=>by simp at h
 | _ :: _,[],_,h=>by simp at h
 | e :: es,p :: l,i,h=>by
   simp only [List.map_cons,List.cons.injEq,Prod.mk.injEq] at h;obtain ⟨⟨h1,h2⟩,h3⟩:=h;unfold Instr.findNow X1u;simp only [h1,Instr.sameNow,h2];cases hs:(s == p.1) with
   | true=>exact ⟨some (i,p.2),by simp,by simp⟩
   | false =>
     obtain ⟨r,hr,hf⟩:=X7p s es l (i + 1) h3;exact ⟨r,by simpa using hr,by simpa using hf⟩
theorem Z8i (s:ByteArray):(s == s) = true:=str_eq rfl
theorem J1j {a b:ByteArray} (h:(a == b) = true):a = b:=by
 cases hb:decide (a = b) with
 | true=>exact of_decide_eq_true hb
 | false=>rw [X2j (of_decide_eq_false hb)] at h; cases h
theorem Y0e (s:ByteArray):∀ (es:List MapEntry) (l:List (ByteArray × Value)) (i:Nat),es.map (fun e=>(e.key,e.val)) = l.map (fun p=>(Value.string p.1,p.2)) ->
    (Instr.findNow .string (.string s) es i = some none /\ ∀ v,Z0m s v l = l ++ [(s,v)]) ∨
    (∃ j x,Instr.findNow .string (.string s) es i = some (some (i + j,x)) /\ j < es.length /\ (∃ e,es[j]? = some e /\ e.key = .string s) /\ ∀ v e,e.key = Value.string s -> e.val = v ->
     (es.set j e).map (fun e=>(e.key,e.val)) = (Z0m s v l).map (fun p=>(Value.string p.1,p.2)))
 | [],[],i,_=>.inl ⟨rfl,fun v=>rfl⟩
 | [],_ :: _,_,h=>by simp at h
 | _ :: _,[],_,h=>by simp at h
 | e :: es,p :: l,i,h=>by
   simp only [List.map_cons,List.cons.injEq,Prod.mk.injEq] at h;obtain ⟨⟨h1,h2⟩,h3⟩:=h;cases hs:(s == p.1) with
   | true =>
     have hsp:=J1j hs;refine .inr ⟨0,e.val,?_,by simp,⟨e,rfl,by rw [h1,hsp]⟩,fun v e' h4 h5=>?_⟩
     . unfold Instr.findNow
       simp only [h1,Instr.sameNow,hs]; rfl
     . unfold Z0m
       rw [if_pos hs];simp [h4,h5,h3]
   | false =>
     have hn:¬ (s == p.1) = true:=by rw [hs]; simp
     rcases Y0e s es l (i + 1) h3 with ⟨ha,hb⟩ | ⟨j,x,ha,hj,⟨e0,he0,hk0⟩,hb⟩
     . refine .inl ⟨?_,fun v=>?_⟩
       . unfold Instr.findNow
         simp only [h1,Instr.sameNow,hs]; exact ha
       . unfold Z0m
         rw [if_neg hn,hb v]; rfl
     . refine .inr ⟨j + 1,x,?_,by simp; omega,⟨e0,by simpa using he0,hk0⟩,fun v e' h4 h5=>?_⟩
       . unfold Instr.findNow
         simp only [h1,Instr.sameNow,hs];rw [show i + (j + 1) = i + 1 + j from by omega]; exact ha
       . unfold Z0m
         rw [if_neg hn];simp only [List.set_cons_succ,List.map_cons,h1,h2];rw [hb v e' h4 h5]
theorem X2n {P:Program} {w:World} {r:Nat} {es:Array MapEntry} {clock:Nat} (hb:w.heap[r]? = some (.map es clock)):(getObj r).run P w = .ok (.map es clock) w:=by
 simp [getObj,Sem.run,hb]
theorem Y0d {P:Program} {w:World} {r:Nat} {es:Array MapEntry} {clock:Nat} (o:Obj) (hb:w.heap[r]? = some (.map es clock)):(setObj r o).run P w = .ok () { w with heap:=w.heap.setIfInBounds r o }:=by
 simp [setObj,Sem.run,hb]
theorem X3b {P:Program} {w:World} {k:TypeId} (hk:P.underlying k = some .string) (e:Bool) (s:ByteArray) (n:Nat):(Instr.checkKey e (n + 1) k (.string s)).run P w = .ok () w:=by
 unfold Instr.checkKey;simp only [Sem.run_bind,run_underlying hk,Result.andThen_ok,Sem.run_pure]
theorem X9s {P:Program} {w:World} {b:Nat} {l:List (ByteArray × Value)} (h:Q5n w b l) {t k e:TypeId} (ht:P.underlying t = some (.map k e)) (hk:P.underlying k = some .string) {z:Value} (hz:(zeroValue e).run P w = .ok z w) (s:ByteArray) (ok:Bool) :
    (Instr.lookup t (.map (some b)) (.string s) ok).run P w = .ok (if ok then .tuple #[(X1u s l).getD z,.bool (X1u s l).isSome] else (X1u s l).getD z) w:=by
 obtain ⟨a,clock,hb,he⟩:=h;obtain ⟨r,hr,hf⟩:=X7p s a.toList l 0 he;unfold Instr.lookup;simp only [Sem.run_bind,run_underlying ht,Result.andThen_ok,X2n hb,Sem.run_pure,X3b hk _ s 9999,Instr.findKey,run_underlying hk,hr];rw [<- hf];cases r with
 | none=>simp only [Sem.run_bind,hz,Result.andThen_ok,Sem.run_pure]; cases ok <;> rfl
 | some p=>cases ok <;> rfl
theorem Y8s {P:Program} {w:World} {b:Nat} {l:List (ByteArray × Value)} (h:Q5n w b l) {t k e:TypeId} (ht:P.underlying t = some (.map k e)) (hk:P.underlying k = some .string) (s:ByteArray) (v:Value) :
    ∃ w',(Instr.mapUpdate t (.map (some b)) (.string s) v).run P w = .ok () w' /\ Q5n w' b (Z0m s v l) /\ (∀ n,n <= b -> Below n w w') /\ w.grownBy w' (some b):=by
 obtain ⟨a,clock,hb,he⟩:=h;have hlt:=(Array.getElem?_eq_some_iff.1 hb).1;have hbel:∀ o n,n <= b -> Below n w { w with heap:=w.heap.setIfInBounds b o }:=fun o n hn =>
  ⟨rfl,rfl,rfl,by simp,fun k hk'=>by show (w.heap.setIfInBounds b o)[k]? = _; rw [Array.getElem?_setIfInBounds_ne (by omega)]⟩
 have hgr:∀ o,w.grownBy { w with heap:=w.heap.setIfInBounds b o } (some b):=fun o =>
  ⟨rfl,rfl,rfl,by simp,fun k _ hk'=>by show (w.heap.setIfInBounds b o)[k]? = _; rw [Array.getElem?_setIfInBounds_ne (fun e=>hk' (by rw [e]))]⟩
 rcases Y0e s a.toList l 0 he with ⟨hr,hp⟩ | ⟨j,x,hr,hj,⟨e0,he0,hk0⟩,hp⟩
 . refine ⟨{ w with heap:=w.heap.setIfInBounds b (.map (a.push ⟨.string s,v,clock⟩) (clock + 1)) },?_,⟨a.push ⟨.string s,v,clock⟩,clock + 1,?_,?_⟩,hbel _,hgr _⟩
   . unfold Instr.mapUpdate
     simp only [Sem.run_bind,run_underlying ht,Result.andThen_ok,X2n hb,Sem.run_pure,X3b hk _ s 9999,Instr.findKey,run_underlying hk,hr];exact Y0d _ hb
   . show (w.heap.setIfInBounds b _)[b]? = _; simp [hlt]
   . rw [hp v]; simp [he]
 . rw [Nat.zero_add] at hr
   have he0':a[j]? = some e0:=by simpa using he0
   refine ⟨{ w with heap:=w.heap.setIfInBounds b (.map (a.modify j fun e=>{ e with key:=.string s,val:=v }) clock) },?_,⟨a.modify j fun e=>{ e with key:=.string s,val:=v },clock,?_,?_⟩,hbel _,hgr _⟩
   . unfold Instr.mapUpdate
     simp only [Sem.run_bind,run_underlying ht,Result.andThen_ok,X2n hb,Sem.run_pure,X3b hk _ s 9999,Instr.findKey,run_underlying hk,hr,he0',Option.map_some,Option.getD_some,hk0];have hkt:(Instr.keyThatStays (.string s) (.string s)).run P w = .ok (.string s) w:=by
      unfold Instr.keyThatStays;rw [if_pos (by unfold Instr.sameBits; exact Z8i s)]; rfl
     simp only [hkt,Result.andThen_ok];exact Y0d _ hb
   . show (w.heap.setIfInBounds b _)[b]? = _; simp [hlt]
   . have:=hp v { e0 with key:=.string s,val:=v } rfl rfl
     rw [<- this]
     congr 1
     apply List.ext_getElem?
     intro i;rw [Array.getElem?_toList,Array.getElem?_modify,List.getElem?_set]
     by_cases hij:j = i
     . subst hij
       have hja:j < a.size:=by simpa using hj
       simp only [he0',Option.map_some,if_true,Array.length_toList,hja]
     . simp [hij]
end Go.Tw
namespace Go.Tw
open Go.RowKit
theorem Y4d (s k:ByteArray) (v:Value):∀ l,X1u k (Z0m s v l) = if k = s then some v else X1u k l
 | []=>by
   unfold Z0m X1u
   by_cases h:k = s
   . rw [if_pos (str_eq h),if_pos h]
   . rw [if_neg (by rw [X2j h]; simp),if_neg h]; rfl
 | p :: l=>by
   unfold Z0m
   by_cases hs:s = p.1
   . rw [if_pos (str_eq hs)]
     by_cases h:k = s
     . simp only [X1u]; rw [if_pos (str_eq h),if_pos h]
     . simp only [X1u]; rw [if_neg (by rw [X2j h]; simp),if_neg h,if_neg (by rw [<- hs,X2j h]; simp)]
   . rw [if_neg (by rw [X2j hs]; simp)]
     simp only [X1u]
     by_cases hk:k = p.1
     . rw [if_pos (str_eq hk),if_pos (str_eq hk),if_neg (fun e=>hs (by rw [<- e,hk]))]
     . have h1:¬ (k == p.1) = true:=by rw [X2j hk]; simp
       rw [if_neg h1,Y4d s k v l]
       by_cases h:k = s
       . rw [if_pos h,if_pos h]
       . rw [if_neg h,if_neg h,if_neg h1]
def Q6s (p:List Rul):Nat -> List (ByteArray × Value)
 | 0=>[]
 | k + 1=>Z0m (Q5x (Q0w p k)) (.bool (Q4q p k)) (Q6s p k)
theorem Z6t (p:List Rul) (r:Rul) (h:List Int) (hn:h = r.classes -> h ∉ p.map Rul.classes):look (p ++ [r]) h = if h = r.classes then r.close else look p h:=by
 unfold look;rw [List.find?_append]
 by_cases he:h = r.classes
 . have h0:p.find? (fun x=>x.classes == h) = none:=by
    rw [List.find?_eq_none];intro x hx hxe;exact hn he (List.mem_map.2 ⟨x,hx,by simpa using hxe⟩)
   rw [h0,if_pos he];simp [he]
 . rw [if_neg he]
   have h1:(r.classes == h) = false:=by rw [beq_eq_false_iff_ne]; exact fun e=>he e.symm
   cases hf:p.find? (fun x=>x.classes == h) with
   | some x=>simp
   | none=>simp [h1]
theorem Z0s {p:List Rul} (hn:(p.map Rul.classes).Nodup) (hd:∀ k,k < p.length -> Digits (Q0w p k)) {h:List Int} (hh:Digits h) :
    ∀ k,k <= p.length -> (X1u (Q5x h) (Q6s p k)).getD (.bool false) = .bool (look (p.take k) h)
 | 0,_=>rfl
 | k + 1,hk=>by
   have hlt:k < p.length:=by omega
   rw [Q6s,Y4d,List.take_succ_eq_append_getElem hlt];have hnot:h = p[k].classes -> h ∉ (p.take k).map Rul.classes:=by
    rintro rfl hm;obtain ⟨x,hx,he⟩:=List.mem_map.1 hm;obtain ⟨j,hj,rfl⟩:=List.getElem_of_mem hx;rw [List.length_take] at hj;rw [List.getElem_take] at he;have hpw:=List.pairwise_iff_getElem.1 hn j k (by simp; omega) (by simpa using hlt) (by omega)
    simp only [List.getElem_map] at hpw;exact hpw he
   rw [Z6t _ _ _ hnot]
   by_cases he:h = p[k].classes
   . rw [if_pos he,if_pos (by rw [he,Q7r hlt]),Z4s hlt]; rfl
   . rw [if_neg he,if_neg (fun e=>he (by rw [Y9g hh (hd k hlt) e,Q7r hlt]))]
     exact Z0s hn hd hh k (by omega)
theorem Y3u {p:List Rul} (hn:(p.map Rul.classes).Nodup) (hd:∀ k,k < p.length -> Digits (Q0w p k)) {h:List Int} (hh:Digits h) :
    (X1u (Q5x h) (Q6s p p.length)).getD (.bool false) = .bool (look p h):=by
 rw [Z0s hn hd hh _ (Nat.le_refl _),List.take_length]
end Go.Tw
namespace Go.Proofs
open Go.RowKit Go.Tw Go.Flow
theorem Tryz.J1v:(Tryz.prog.info? 5).map (fun i=>(i.zero,i.size,i.bytes)) = some (some (.int .u8 0),1,1):=by kernel_rfl
theorem Z3u (W:World) (x:Int) (h:0 <= x /\ x <= 9) :
    Calls Tryz.prog 165 #[.int .i64 x] W fun e W'=>e = .returned (.int .u8 x) /\ W = W':=by
 have hc:(convert 3 5 (.int .i64 x)).run Tryz.prog W = .ok (.int .u8 x) W:=by
  have hw:IntKind.u8.wrap x = x:=by simp [IntKind.wrap,IntKind.bits,IntKind.signed]; omega
  have h1:Tryz.prog.underlying 3 = some (.int .i64):=by kernel_rfl
  have h2:Tryz.prog.underlying 5 = some (.int .u8):=by kernel_rfl
  simp [convert,run_underlying h1,run_underlying h2,Conv.intToInt,hw]
 go_enter Tryz.func165,Tryz.ntmps165;go_wp2;go_ret;exact ⟨rfl,rfl⟩
theorem Z7t (l:List Int) {k:Nat} (hk:k < l.length):l.take k ++ [ix l k] = l.take (k + 1):=by
 rw [List.take_succ_eq_append_getElem hk,Q4w hk]
theorem X9x (w:World) (v:Value) (l:List Int) (hv:Q0d w v l) (hle:l.length <= 4096) (hd:Digits l) :
    Calls Tryz.prog 164 #[v,.func (.func 165) #[] #[]] w fun e w'=>∃ x,e = .returned x /\ Q0t w' w.heap.size 5 (.int .u8) x l /\ Ext w w':=by
 obtain ⟨i0,hi,hz0,hz1,hz2⟩:=info_parts Tryz.J1v;obtain ⟨A,cap,rfl,hl,hcap,hc⟩:=hv.opened;have HC:=Lib.hid hc;have HD:=Lib.hid hd;clear hv hc hd;go_enter Tryz.func164,Tryz.ntmps164;go_wp2
 go_loopw [5,10] (fun o i wr=>∃ (k:Nat),k <= l.length /\ i = .int .i64 k /\ Q0t wr w.heap.size 5 (.int .u8) o (l.take k) /\ Ext w wr) (fun _ i _=>l.length - (intOf i).toNat)
 case atStart=>exact ⟨0,Nat.zero_le _,rfl,Q0t.nil _ _ _ _,Ext.refl _⟩
 case round =>
  obtain ⟨k,hk,rfl,hown,hx⟩:=hrel;have hlen:(l.take k).length = k:=by rw [List.length_take]; omega
  by_cases hlt:k < l.length
  . obtain ⟨b,off,rfl,hcell⟩:=HC.out k hlt
    have HTK:=Lib.hid (Z7t l hlt);have hdk:=HD.out (ix l k) (by rw [Q4w hlt]; exact List.getElem_mem hlt)
    obtain ⟨s,hs⟩:∃ s,ix l k = s:=⟨_,rfl⟩;rw [hs] at hcell HTK hdk;have HFS:=Lib.hid (Z3u wr s hdk);replace hcell:=hx.cell hcell;have hll:(l.take k).length <= 4096:=by omega
    clear hs hlen hdk;go_wp2_with (first | (refine HFS.out.mono ?_; rintro e w9 ⟨rfl,rfl⟩) | (at_builtin; refine wpList_append_own _ rfl _ _ 212 rfl (w.heap.size) 5 i0 (.int .u8 0) 1 1 Tryz.underlying212 hi hz0 hz1 hz2 rfl (by decide) _ _ _ rfl (World.ownsRow.alloc hown _) ⟨wr.heap.size,0,none⟩ 1 1 [.int .u8 s] rfl rfl ?_ ?_ ?_ ?_ ?_ ?_; exact Q4b _ _ _; (focus (simp [Value.oneCell'])); (focus (unfold maxLen; omega)); (focus omega); (focus (have:=hx.size; simp at this ⊢; omega)); intro v' w1 hown' hgrow _))
    have hx':=Q2l hx hown (Nat.le_refl _) hgrow;go_wp2;go_roundw
    case rel=>exact ⟨k + 1,by omega,by go_num,by rw [<- HTK.out]; exact Q0t.snoc hown',hx'⟩
    case measure=>simp [intOf]; omega
  . have HE:Hid (l.take k = l):=Lib.hid (List.take_of_length_le (by omega))
    rw [HE.out] at hown;have HOWN:=Lib.hid hown;clear hown hlen;go_wp2;go_ret;exact ⟨_,rfl,HOWN.out,hx⟩
theorem Y2s (w:World) {base:Nat} {u:Value} {l:List Int} (hu:Q0t w base 5 (.int .u8) u l) :
    (convert 212 9 u).run Tryz.prog w = .ok (.string (Q5x l)) w:=by
 have h1:Tryz.prog.underlying 212 = some (.slice 5):=by kernel_rfl
 have h2:Tryz.prog.underlying 5 = some (.int .u8):=by kernel_rfl
 have h3:Tryz.prog.underlying 9 = some .string:=by kernel_rfl
 rcases hu.cells2 with ⟨rfl,rfl⟩ | ⟨g,c,rfl,-,-,-,hcell⟩
 . rw [run_convert_bytes_nil w _ _ h1 h2 0 0 _ h3]; rfl
 . rw [run_convert_bytes_arg w _ _ h1 h2 g 0 l.length c l rfl (fun i hi=>by rw [hcell i hi]; simp [hi]) _ h3]; rfl
theorem Y1s (w:World) (v:Value) (l:List Int) (hv:Q0d w v l) (hle:l.length <= 4096) (hd:Digits l) :
    Calls Tryz.prog 102 #[v] w fun e w'=>e = .returned (.string (Q5x l)) /\ Ext w w':=by
 have HM:=Lib.hid (X9x w v l hv hle hd);obtain ⟨A,cap,rfl,-,-,-⟩:=hv.opened;clear hv hd;go_enter Tryz.func102,Tryz.ntmps102;go_wp2_with fail;refine HM.out.mono ?_;rintro e w5 ⟨u,rfl,hu,hx5⟩;have hcv:=Y2s w5 hu;have HX:=Lib.hid hx5;clear hu hx5;go_wp2;go_ret;exact ⟨rfl,HX.out⟩
end Go.Proofs
namespace Go.Proofs
open Go.RowKit Go.Tw Go.Flow
attribute [local go_sem] Oper.semAt_some
theorem Z9d:Tryz.prog.underlying 245 = some (.map 9 4):=by kernel_rfl
theorem J2j:Tryz.prog.underlying 9 = some .string:=by kernel_rfl
theorem J1u (w:World):(zeroValue 4).run Tryz.prog w = .ok (.bool false) w:=by kernel_rfl
theorem Z9o {α:Type} {enc:α -> Value} {w:World} {v:Value} {x:α} (h:Q7a w v (enc x)):Src w enc v [x]:=by
 obtain ⟨g,h1,h2⟩:=h;exact ⟨_,1,h1,fun j hj=>⟨g,0,rfl,by
  have:j = 0:=by simp at hj; exact hj
  subst this; exact h2⟩⟩
def X5e (p:List Rul) (l:List Int) (k:Nat):List Bool:=(List.range k).map fun t=>Tw.look p (l.take (t + 1))
theorem Y9e (p:List Rul) (l:List Int) (k:Nat):X5e p l (k + 1) = X5e p l k ++ [Tw.look p (l.take (k + 1))]:=by unfold X5e; rw [List.range_succ,List.map_append]; rfl
theorem Z1j (p:List Rul) (l:List Int) (k:Nat):(X5e p l k).length = k:=by simp [X5e]
theorem X9b (w:World) (v:Value) (m:Mem) (p:List Rul) (B b:Nat) (hv:X1r w v m) (hn:(p.map Rul.classes).Nodup) (hd:∀ k,k < p.length -> Digits (Q0w p k)) (hm:Digits m.classes) (hl:m.classes.length <= 8)
    (hB:w.cell? ⟨B,0,none⟩ = some (.map (some b))) (hM:Q5n w b (Q6s p p.length)) :
    Calls Tryz.prog 168 #[v,.pointer (some ⟨B,0,none⟩)] w fun e w'=>∃ x,e = .returned x /\ Q0t w' w.heap.size 4 .bool x (Q0o p m.classes) /\ Ext w w':=by
 obtain ⟨i0,hi,hz0,hz1,hz2⟩:=info_parts Tryz.X5z;obtain ⟨x,y,z,rfl,hx,hy,hz⟩:=hv;have HXI:=Lib.hid hx;obtain ⟨X,capx,rfl,-,hcapx,hcX⟩:=hx.opened;obtain ⟨Y,capy,rfl,-,-,-⟩:=hy.opened;obtain ⟨Z,capz,rfl,-,-,-⟩:=hz.opened;have HCX:=Lib.hid hcX;obtain ⟨lc,hlc⟩:∃ x,m.classes = x:=⟨_,rfl⟩;rw [hlc] at HXI hcapx HCX hm hl ⊢;obtain ⟨lo,hlo⟩:∃ x,m.outside.length = x:=⟨_,rfl⟩;obtain ⟨li,hli⟩:∃ x,m.inflow.length = x:=⟨_,rfl⟩;rw [hlo,hli];have HLK:Hid (∀ (W:World) (k:Nat),Ext w W -> (Instr.lookup 245 (.map (some b)) (.string (Q5x (lc.take k))) false).run Tryz.prog W = .ok (.bool (Tw.look p (lc.take k))) W):=Lib.hid (fun W k hW=>by
  have h:=X9s (P:=Tryz.prog) (hM.ext hW) Z9d J2j (J1u _) (Q5x (lc.take k)) false;rw [if_neg (by simp),Y3u hn hd (Q4r hm k)] at h
  exact h)
 have HDG:=Lib.hid hm;have HBC:=Lib.hid hB;clear hx hy hz hcX hM hn hd hm hlc hlo hli hB;go_enter Tryz.func168,Tryz.ntmps168;go_wp2_with fail;change Code.wp _ _ _ _ (w.alloc (.cells #[.string m.name,.int .i64 m.weight,.slice X lc.length capx,.slice Y lo capy,.slice Z li capz] 69));obtain ⟨W,hWW,k0,HXW,eW⟩:=Q1q w 69 #[.string m.name,.int .i64 m.weight,.slice X lc.length capx,.slice Y lo capy,.slice Z li capz];rw [hWW];clear hWW;have K0:=Lib.hid k0;have c0_2:=k0.cell 2;simp only [Go.Tw.gA,Go.Tw.gB,Go.Tw.gC] at c0_2;obtain ⟨gm,hgm⟩:∃ x,w.heap.size = x:=⟨_,rfl⟩;rw [hgm] at K0 eW c0_2 ⊢;clear k0;go_wp2;clear c0_2
 go_loopw [4,9] (fun o i wr=>∃ k:Nat,k <= lc.length /\ i = .int .i64 k /\ Q0t wr W.heap.size 4 .bool o (X5e p lc k) /\ Ext W wr) (fun _ i _=>lc.length - (intOf i).toNat)
 case atStart=>exact ⟨0,Nat.zero_le _,rfl,Q0t.nil _ _ _ _,Ext.refl _⟩
 case round =>
  obtain ⟨k,hk,rfl,hown,hxr⟩:=hrel;obtain ⟨Ao,co,rfl,-⟩:=hown.shape;have hol:=Z1j p lc k
  by_cases hlt:k < lc.length
  . obtain ⟨bc,oc,hXe,-⟩:=HCX.out k hlt
    subst hXe;have HXR:=Lib.hid hxr;have HOW:=Lib.hid hown;have hkI:(k:Int) < lc.length:=by omega
    have hkc:k + 1 <= capx:=by omega
    have hkcI:(k:Int) + 1 <= (capx:Int):=by omega
    have hkc1:¬ ((0:Int) <= (k:Int) + 1 -> (capx:Int) < (k:Int) + 1):=by omega
    have hkc2:¬ capx = 0:=by omega
    have hkc4:¬ (k:Int) + 1 < 0:=by omega
    have hkc3:((k:Int) + 1).toNat = k + 1:=by omega
    have hwk:IntKind.i64.wrap ((k:Int) + 1) = (k:Int) + 1:=Q2p _ (by omega) (by omega)
    have HSUC:=Lib.hid (Y9e p lc k);have HPRE:Hid (Q0d w (.slice (some ⟨bc,oc,none⟩) (k + 1) capx) (lc.take (k + 1))):=Lib.hid (X6x HXI.out (by omega))
    have HPL:Hid ((lc.take (k + 1)).length <= 4096):=Lib.hid (by rw [List.length_take]; omega)
    have HPD:=Lib.hid (Q4r HDG.out (k + 1));have HL1:=Lib.hid (fun W hW=>HLK.out W (k + 1) hW);obtain ⟨lp,hlp⟩:∃ x,lc.take (k + 1) = x:=⟨_,rfl⟩;rw [hlp] at HSUC HPRE HPL HPD HL1;obtain ⟨q,hq⟩:∃ x,Tw.look p lp = x:=⟨_,rfl⟩;rw [hq] at HSUC HL1;have hol2:(X5e p lc k).length + 1 <= 4398046511104:=by omega
    obtain ⟨xs,hxs⟩:∃ x,X5e p lc k = x:=⟨_,rfl⟩;rw [hxs] at HOW hol hol2 HSUC ⊢;have HOL:=Lib.hid hol;have HOL2:=Lib.hid hol2;have hdr:=(Ext.refl wr).drew;clear hown hlp hq hxr hol hol2 hxs
    go_light
    go_wp2;refine Flow.Q5l [.p,.w,.p,.w,.p,.p,.p,.w,.w,.w,.last,.last] [0,1,2,3,4,5,6,7,8,9,10,11] [[],[],[],[2],[],[4],[2,3,4,5],[2,3,4,5,6],[1,2,3,4,5,6,7],[1,2,3,4,5,6,7,8],[0,1,2,3,4,5,6,7,8,9],[0,1,2,3,4,5,6,7,8,9,10]] [10,11]
     [.c 0 (.slice Ao xs.length co),.c 1 (.map (some b)),.c 2 (.pointer (some ⟨gm,2,none⟩)),.c 3 (.slice (some ⟨bc,oc,none⟩) lc.length capx),.c 4 (.int .i64 (k:Int)),.c 5 (.int .i64 ((k:Int) + 1)),.c 6 (.slice (some ⟨bc,oc,none⟩) (k + 1) capx),.c 7 (.string (Q5x lp)),.c 8 (.bool q),⟨fun v wz=>(fun v w'=>Q7a w' (v 9) (.bool q)) v wz,fun _ _ _ hx h=>Q7a.ext h hx⟩,.none,.none]
     [fun v w1 w'=>Q0t w' W.heap.size 4 .bool (v 10) (xs ++ [q]) /\ w1.grownBy w' (Value.slice Ao xs.length co).ownBlock,fun v w1 w'=>v 11 = v 10 /\ Q0t w' W.heap.size 4 .bool (v 10) (xs ++ [q]) /\ w1.grownBy w' (Value.slice Ao xs.length co).ownBlock] (by kernel_rfl) rfl (by kernel_rfl) ⟨?g0,?g1,?g2,?g3,?g4,?g5,?g6,?g7,?g8,?g9,?g10,?g11,trivial⟩ ?post
    case g0 | g2 | g4=>
     intro v w1 hx;intro bb hbb;subst hbb;refine ⟨_,fun w=>?_,rfl⟩;go_simp
    case g1=>
     intro v w1 hx;intro bb hbb;subst hbb;have n0:w1.cell? ⟨B,0,none⟩ = some (.map (some b)):=(HXW.out.trans (HXR.out.trans (hdr.trans hx))).cell HBC.out;intro K hK;go_simp;exact hK _ _ (Ext.refl _) rfl
    case g3=>
     intro v w1 hx;(repeat intro (zq:v _ = _));intro bb hbb;subst hbb;have n0:w1.cell? ⟨gm,2,none⟩ = some (.slice (some ⟨bc,oc,none⟩) lc.length capx):=(K0.out.ext (HXR.out.trans (hdr.trans hx))).cell 2;intro K hK;go_simp;exact hK _ _ (Ext.refl _) rfl
    case g5 | g6=>
     intro v w1 hx;(repeat intro (zq:v _ = _));intro bb hbb;subst hbb;refine ⟨_,fun w=>?_,rfl⟩;go_simp
    case g7=>
     intro v w1 hx;(repeat intro (zq:v _ = _));intro bb hbb;subst hbb;intro K hK;go_simp;refine Q0e (Y1s w1 _ lp (HPRE.out.ext (HXW.out.trans (HXR.out.trans (hdr.trans hx)))) HPL.out HPD.out) ?_;rintro e w2 ⟨rfl,hx2⟩;exact ⟨_,rfl,hK _ _ hx2 rfl⟩
    case g8=>
     intro v w1 hx;(repeat intro (zq:v _ = _));intro bb hbb;subst hbb;have hlk:=HL1.out w1 (HXW.out.trans (HXR.out.trans (hdr.trans hx)));intro K hK;go_simp;exact hK _ _ (Ext.refl _) rfl
    case g9=>
     intro v w1 hx;(repeat intro (zq:v _ = _));intro bb hbb;subst hbb;intro K hK;go_simp;exact hK _ _ (Ext.box _ _) (Q7a.made _ _ _)
    case g10=>
     intro v w1 hx (q0:v 0 = _) (q1:v 1 = _) (q2:v 2 = _) (q3:v 3 = _) (q4:v 4 = _) (q5:v 5 = _) (q6:v 6 = _) (q7:v 7 = _) (q8:v 8 = _) (q9:(fun v w'=>Q7a w' (v 9) (.bool q)) v w1);intro wl hT;obtain rfl:wl = w1:=hT;intro bb hbb;intro K hK;have o1:bb.eval (.tmp 12) = .slice Ao xs.length co:=by rw [hbb]; dsimp only; (try simp (discharger:=decide) only [eval_put_ne]); rw [Q0a (by exact (by decide:12 < 25))]; exact q0
     have o2:bb.eval (.tmp 21) = v 9:=by rw [hbb]; dsimp only; (try simp (discharger:=decide) only [eval_put_ne]); rw [Q0a (by simp only [size_put]; exact (by decide:21 < 25))]
     refine Q5k _ _ 82 rfl W.heap.size 4 i0 (.bool false) 1 Tryz.underlying82 hi hz0 hz1 hz2 rfl .bool (.slice Ao xs.length co) (v 9) xs [q] o1 (HOW.out.below (hdr.trans hx)) o2 (Z9o q9) (fun y hy=>rfl) (by have:=HOL2.out; rw [List.length_singleton]; exact this) (by decide) (by have:=HXR.out.size; have:=hx.size; have:wr.drew.heap.size = wr.heap.size:=rfl; omega) (fun v' w' hown hg=>hK _ _ ⟨hown,hg⟩)
    case g11=>
     intro v w1 hx (q0:v 0 = _) (q1:v 1 = _) (q2:v 2 = _) (q3:v 3 = _) (q4:v 4 = _) (q5:v 5 = _) (q6:v 6 = _) (q7:v 7 = _) (q8:v 8 = _) _;intro wl hT;replace hT:(fun v w1 w'=>Q0t w' W.heap.size 4 .bool (v 10) (xs ++ [q]) /\ w1.grownBy w' (Value.slice Ao xs.length co).ownBlock) v w1 wl:=hT;intro bb hbb;subst hbb;intro K hK;go_simp;exact hK _ _ ⟨rfl,hT⟩
    case post =>
     intro v w1 hx;(iterate 9 intro (zq:v _ = _));intro (q9:(fun v w'=>Q7a w' (v 9) (.bool q)) v w1);intro w2 hE;replace hE:(fun v w1 w'=>v 11 = v 10 /\ Q0t w' W.heap.size 4 .bool (v 10) (xs ++ [q]) /\ w1.grownBy w' (Value.slice Ao xs.length co).ownBlock) v w1 w2:=hE;simp only [Flow.acts,Act.put];go_simp;obtain ⟨_,hown',hgrow⟩:=hE;have hxx:=HXR.out.trans (hdr.trans hx);have hx9:Ext W w2:=Below.grown hxx hgrow hxx.size (fun b hb=>by
      have h1:=HOW.out;obtain ⟨_,h2⟩:=h1
      rcases h2 with ⟨h2,_⟩ | ⟨g,c,cur,h2,hbg,_⟩
      . rw [h2] at hb; cases hb
      . rw [h2] at hb; cases hb; exact hbg)
     have HX9:=Lib.hid hx9;have HO9:=Lib.hid hown';clear hx hdr hx9 hown' hgrow hxx q9;(repeat clear zq);go_wp2;go_roundw
     case rel=>exact ⟨k + 1,by omega,by go_num,by rw [HSUC.out]; exact HO9.out,HX9.out⟩
     case measure=>simp [intOf]; omega
  . have hke:k = lc.length:=by omega
    subst hke;have HOW:=Lib.hid hown;have HXR:=Lib.hid hxr;clear hown hxr;go_wp2;go_ret;exact ⟨_,rfl,HOW.out.weaken (by omega),HXW.out.trans HXR.out⟩
def Q2t (s:Q0b) (p:List Rul):List (List Bool):=s.members.map fun m=>Q0o p m.classes
theorem Q6d {s:Q0b} (p:List Rul) {k:Nat} (hk:k < s.members.length):(Q2t s p).getD k [] = Q0o p (Q0c s.members k):=by
 unfold Q2t Q0c;simp [hk]
theorem Q2v (s:Q0b) (p:List Rul):(Q2t s p).length = s.members.length:=by simp [Q2t]
theorem Y5i {s:Q0b} (p:List Rul) {k:Nat} (hk:k < s.members.length):(Q2t s p).take (k + 1) = (Q2t s p).take k ++ [Q0o p (Q0c s.members k)]:=by
 rw [List.take_succ_eq_append_getElem (by rw [Q2v]; exact hk)]
 unfold Q2t Q0c;simp [hk]
theorem Tryz.Z3j:(Tryz.prog.info? 82).map (fun i=>(i.zero,i.size,i.bytes)) = some (some (.slice none 0 0),1,24):=by kernel_rfl
theorem X9a (w:World) (v:Value) (s:Q0b) (p:List Rul) (B b:Nat) (hv:Q8q w v s.members) (hS:Q0y s) (hn:(p.map Rul.classes).Nodup) (hd:∀ k,k < p.length -> Digits (Q0w p k))
    (hB:w.cell? ⟨B,0,none⟩ = some (.map (some b))) (hM:Q5n w b (Q6s p p.length)) :
    Calls Tryz.prog 167 #[v,.func (.func 168) #[] #[.pointer (some ⟨B,0,none⟩)]] w fun e w'=>∃ x vs,e = .returned x /\ Q0t w' w.heap.size 82 idV x vs /\ X0b w' 4 .bool vs (Q2t s p) /\ Ext w w':=by
 obtain ⟨i0,hi,hz0,hz1,hz2⟩:=info_parts Tryz.Z3j;have h8:=hS.some;have h6:=hS.tides;have HS:=Lib.hid hS;have HV:=Lib.hid hv;obtain ⟨V,capv,rfl,-,-,-⟩:=hv.opened;have HCL:Hid (∀ (W:World) (u:Value) (k:Nat),Ext w W -> k < s.members.length -> X1r W u (Q1l s k) -> Calls Tryz.prog 168 #[u,.pointer (some ⟨B,0,none⟩)] W fun e w'=>∃ x,e = .returned x /\ Q0t w' W.heap.size 4 .bool x (Q0o p (Q0c s.members k)) /\ Ext W w') :=
  Lib.hid (fun W u k hW hk hu=>X9b W u (Q1l s k) p B b hu hn hd (hS.digits k hk) (by have:=(hS.shaped k hk).1; show (Q0c s.members k).length <= 8; omega) (hW.cell hB) (hM.ext hW))
 clear hv hn hd hB hM hS;go_enter Tryz.func167,Tryz.ntmps167;go_wp2
 go_loopw [5,10] (fun o i wr=>∃ (k:Nat) (vs:List Value),k <= s.members.length /\ i = .int .i64 k /\ Q0t wr w.heap.size 82 idV o vs /\ X0b wr 4 .bool vs ((Q2t s p).take k) /\ Ext w wr) (fun _ i _=>s.members.length - (intOf i).toNat)
 case atStart=>exact ⟨0,[],Nat.zero_le _,rfl,Q0t.nil _ _ _ _,X0b.nil _ _ _,Ext.refl _⟩
 case round =>
  obtain ⟨k,vs,hk,rfl,hown,hrows,hxr⟩:=hrel;have hvl:vs.length = k:=by have:=hrows.1; rw [List.length_take,Q2v] at this; omega
  have HXR:=Lib.hid hxr
  by_cases hlt:k < s.members.length
  . have H3:=HV.out.ext hxr
    obtain ⟨_,_,hVe,_,_,hc⟩:=H3.opened;cases hVe;obtain ⟨bm,off,x,y,z,rfl,hbm,e0,e1,e2,e3,e4,hx,hy,hz,hsh⟩:=hc k hlt;have HX1:=Lib.hid hx;have HX2:=Lib.hid hy;have HX3:=Lib.hid hz;obtain ⟨X,capx,rfl,-,-,-⟩:=hx.opened;obtain ⟨Y,capy,rfl,-,-,-⟩:=hy.opened;obtain ⟨Z,capz,rfl,-,-,-⟩:=hz.opened;have HSUC:=Lib.hid (Y5i p hlt);have HCK:=Lib.hid (fun W u hW hu=>HCL.out W u k hW hlt hu);have HME:Hid (∀ W,Ext wr W -> X1r W (.agg #[.string (Q1k s.members k),.int .i64 (Q0k s.members k),.slice X (Q0c s.members k).length capx,.slice Y (Q0r s.members k).length capy,.slice Z (Q0z s.members k).length capz]) (Q1l s k)) :=
     Lib.hid (fun W hW=>⟨_,_,_,rfl,HX1.out.ext hW,HX2.out.ext hW,HX3.out.ext hW⟩)
    have HLE:Hid ((Q0o p (Q0c s.members k)).length <= 4096):=Lib.hid (by rw [Q2r,(HS.out.shaped k hlt).1]; omega)
    obtain ⟨nm,hnm⟩:∃ x,Q1k s.members k = x:=⟨_,rfl⟩;obtain ⟨wt,hwt⟩:∃ x,Q0k s.members k = x:=⟨_,rfl⟩;obtain ⟨lc,hlc⟩:∃ x,Q0c s.members k = x:=⟨_,rfl⟩;obtain ⟨lo,hlo⟩:∃ x,Q0r s.members k = x:=⟨_,rfl⟩;obtain ⟨li,hli⟩:∃ x,Q0z s.members k = x:=⟨_,rfl⟩;rw [hnm] at e0 HME;rw [hwt] at e1 HME;rw [hlc] at e2 HME HSUC HCK HLE;rw [hlo] at e3 HME;rw [hli] at e4 HME;obtain ⟨cl,hcl⟩:∃ x,Q0o p lc = x:=⟨_,rfl⟩;rw [hcl] at HSUC HCK HLE;have hkI:(k:Int) < s.members.length:=by omega
    have hbox:=Ext.box wr (.cells #[.string nm,.int .i64 wt,.slice X lc.length capx,.slice Y lo.length capy,.slice Z li.length capz] 69);have K3:=Blk.made wr 69 #[.string nm,.int .i64 wt,.slice X lc.length capx,.slice Y lo.length capy,.slice Z li.length capz];have d0:=(K3).cell 0;have d1:=(K3).cell 1;have d2:=(K3).cell 2;have d3:=(K3).cell 3;have d4:=(K3).cell 4;simp only [Go.Tw.gA,Go.Tw.gB,Go.Tw.gC] at d0 d1 d2 d3 d4;have HXB:=Lib.hid hbox;have HO:=Lib.hid hown;have HRO:=Lib.hid hrows;have hll:vs.length <= 4096:=by omega
    clear hc H3 hx hy hz hsh hnm hwt hlc hlo hli hcl hbm hbox K3 hown hrows hxr
    go_light
    go_wp2_with (first | (refine (HCK.out _ _ (HXR.out.trans HXB.out) (HME.out _ HXB.out)).mono ?_; rintro e w5 ⟨u,rfl,hu,hx5⟩; obtain ⟨bu,cu,rfl,-⟩:=hu.shape; have HU:=Lib.hid hu; have HX5:=Lib.hid (HXB.out.trans hx5); have hown:=HO.out.below HX5.out; have hx6:=HXR.out.trans HX5.out; clear hu hx5) | (at_builtin; refine wpList_append_own _ rfl _ _ 179 rfl (w.heap.size) 82 i0 (.slice none 0 0) 1 24 Tryz.underlying179 hi hz0 hz1 hz2 rfl (by decide) _ _ _ rfl (World.ownsRow.alloc hown _) ⟨w5.heap.size,0,none⟩ 1 1 [.slice bu cl.length cu] rfl rfl ?_ ?_ ?_ ?_ ?_ ?_; exact Q4b _ _ _; (focus (simp [Value.oneCell'])); (focus (unfold maxLen; omega)); (focus omega); (focus (have:=hx6.size; simp at this ⊢; omega)); intro v' w1 hown' hgrow _))
    have hx':=Q2l hx6 hown (Nat.le_refl _) hgrow;have hbx:=Ext.box w5 (.cells #[.slice bu cl.length cu] 82);have hs5:=((((HRO.out.ext HX5.out).snoc HU.out).ext hbx)).grown (hown.below hbx) (by decide) hgrow
    have HS5:=Lib.hid hs5;clear hs5;go_wp2;go_roundw
    case rel=>exact ⟨k + 1,vs ++ [.slice bu cl.length cu],by omega,by go_num,Q0t.snoc (x:=Value.slice bu cl.length cu) hown',by rw [HSUC.out]; exact HS5.out,hx'⟩
    case measure=>simp [intOf]; omega
  . have hke:k = s.members.length:=by omega
    have HF:Hid ((Q2t s p).take k = Q2t s p):=Lib.hid (List.take_of_length_le (by rw [Q2v]; omega))
    have HO:=Lib.hid hown;have HRO:=Lib.hid hrows;clear hown hrows hxr;go_wp2;go_ret;exact ⟨_,vs,rfl,HO.out,by rw [<- HF.out]; exact HRO.out,HXR.out⟩
end Go.Proofs
namespace Go.Proofs
open Go.RowKit Go.Tw Go.Flow
attribute [local go_sem] Oper.semAt_some
theorem Z6m {P:Program} {K:Value -> World -> Prop} {o:Oper} {a:Act} {w w':World} {t:TypeId} (m k x:Operand) (ho:o.op = .mapUpdate t m k x) {mv kv xv:Value} (hm:a.eval m = mv) (hk:a.eval k = kv) (hx:a.eval x = xv)
    (hr:(Instr.mapUpdate t mv kv xv).run P w = .ok () w') (h:∀ v,K v w'):gives P K ((execOp a.eval o).run P w):=by
 unfold execOp;simp only [ho,hm,hk,hx,Sem.run_bind,Sem.run_pure,Result.andThen_ok,hr];exact h _
theorem X6s {s:Q0b} (hS:Q0y s):∀ h ∈ s.hist,Digits h:=fun h hh=>by
 obtain ⟨t,ht,k,hk,rfl⟩:=(Q0b.Q4v _ _).1 hh;exact Q4r (hS.digits k hk) _
theorem Y8w {s:Q0b} (hS:Q0y s) {p:List Rul} (hp:Q2g s.hist p = 0):(p.map Rul.classes).Nodup:=by
 rw [Q4g.1 hp]; exact Z5s (Q0b.Y9x hS.shaped)
theorem Y4p {s:Q0b} (hS:Q0y s) {p:List Rul} (hp:Q2g s.hist p = 0):∀ k,k < p.length -> Digits (Q0w p k):=fun k hk=>by
 rw [Q7r hk];exact X6s hS _ (by rw [<- Q4g.1 hp]; exact List.mem_map_of_mem (List.getElem_mem hk))
theorem Z3t {s:Q0b} (hS:Q0y s):∀ h ∈ s.hist,h.length <= 6:=fun h hh=>by
 obtain ⟨t,ht,k,hk,rfl⟩:=(Q0b.Q4v _ _).1 hh;have:=hS.tides.2;rw [List.length_take]; omega
theorem Z2x {s:Q0b} (hS:Q0y s) {p:List Rul} (hp:Q2g s.hist p = 0):∀ k,k < p.length -> (Q0w p k).length <= 6:=fun k hk=>by
 rw [Q7r hk];exact Z3t hS _ (by rw [<- Q4g.1 hp]; exact List.mem_map_of_mem (List.getElem_mem hk))
theorem Q6f (w:World) (v u:Value) (s:Q0b) (p:List Rul) (hv:Q0h w v s) (hu:Q1c w u p) (hS:Q0y s) (hp:Q2g s.hist p = 0) :
    Calls Tryz.prog 109 #[v,u] w fun e w'=>∃ x,e = .returned x /\ Q3l w' x (Q2t s p) /\ Ext w w':=by
 have h8:=hS.some;have HCLB:=Lib.hid (fun i (hi:i < (Q2t s p).length)=>(show ((Q2t s p).getD i []).length <= 17592186043904 by
  rw [Q2v] at hi;rw [Q6d p hi,Q2r,(hS.shaped i hi).1];have:=hS.tides.2; omega))
 have HND:=Lib.hid (Y8w hS hp);have HDI:=Lib.hid (Y4p hS hp);have HL8:=Lib.hid (Z2x hS hp);have HS:=Lib.hid hS;obtain ⟨a,b,rfl,h2⟩:=hv;obtain ⟨rv,rfl,hr⟩:=hu;obtain ⟨A,capa,rfl,-,-,-⟩:=h2.ships.opened;obtain ⟨M,capb,rfl,-,-,-⟩:=h2.members.opened;have HRU:=Lib.hid hr;obtain ⟨R,capr,rfl,-,-,-⟩:=hr.opened;have H2:=Lib.hid h2;clear h2 hr hS hp;go_enter Tryz.func109,Tryz.ntmps109;go_upto_region 1 with fail;change Code.wp _ _ _ _ ((w.alloc (.cells #[.int .i64 s.limit,.slice A s.ships.length capa,.slice M s.members.length capb] 34)).alloc (.cells #[.slice R p.length capr] 38));obtain ⟨W,hWW,k0,k1,HXW,eW⟩:=Q4e w 34 #[.int .i64 s.limit,.slice A s.ships.length capa,.slice M s.members.length capb] 38 #[.slice R p.length capr];rw [hWW];clear hWW;have hmm:=@run_makeMap Tryz.prog;have hb0:=Ext.box W (.map #[] 0);have hb1:=Ext.box (W.alloc (.map #[] 0)) (.cells #[.map (some (w.heap.size + 1 + 1))] 245);have m0:=(Q5n.made W).ext hb1;rw [eW] at m0;have kb:=Blk.made (W.alloc (.map #[] 0)) 245 #[.map (some (w.heap.size + 1 + 1))];have es:(W.alloc (.map #[] 0)).heap.size = W.heap.size + 1:=by simp
 have es2:((W.alloc (.map #[] 0)).alloc (.cells #[.map (some (w.heap.size + 1 + 1))] 245)).heap.size = W.heap.size + 1 + 1:=by simp
 rw [es,eW] at kb;rw [eW] at es2;have KS:=k0.ext (hb0.trans hb1);have KP:=k1.ext (hb0.trans hb1);have n1:=KP.cell 0;simp only [Go.Tw.gA,Go.Tw.gB] at n1;go_wp2;obtain ⟨V,hV⟩:∃ V,(W.alloc (.map #[] 0)).alloc (.cells #[.map (some (w.heap.size + 1 + 1))] 245) = V:=⟨_,rfl⟩;have hxV:Ext w V:=HXW.out.trans (by rw [<- hV]; exact hb0.trans hb1)
 rw [hV] at m0 kb KS KP es2 ⊢;obtain ⟨b,hb⟩:∃ b,w.heap.size + 1 + 1 = b:=⟨_,rfl⟩;rw [hb] at m0 kb es2 ⊢;have hwb:w.heap.size < b:=by omega
 have hwb1:w.heap.size + 1 < b:=by omega
 obtain ⟨gs,hgs⟩:∃ x,w.heap.size = x:=⟨_,rfl⟩;have HGS:=Lib.hid hgs;rw [hgs] at KS KP hwb hwb1 ⊢;have HKS:=Lib.hid KS;have HXV:=Lib.hid hxV;have HM0:=Lib.hid m0;have HKB:=Lib.hid kb;have HVS:=Lib.hid es2;clear hb0 hb1 m0 kb es es2 KS KP n1 hV hxV hb eW HXW k0 k1 hgs hmm
 go_loopw [12] (fun i wr=>∃ k:Nat,k <= p.length /\ i = .int .i64 k /\ Q5n wr b (Q6s p k) /\ Blk wr (b + 1) 245 #[.map (some b)] /\ Below b V wr) (fun i _=>p.length - (intOf i).toNat)
 case atStart=>exact ⟨0,Nat.zero_le _,rfl,HM0.out,HKB.out,Below.refl _ _⟩
 case round =>
  obtain ⟨k,hk,rfl,hmap,hblk,hbel⟩:=hrel;have HMP:=Lib.hid hmap;have HBL:=Lib.hid hblk;have HBE:=Lib.hid hbel
  by_cases hlt:k < p.length
  . obtain ⟨_,_,hRe,_,_,hc⟩:=HRU.out.opened
    cases hRe;obtain ⟨br,orr,xr,rfl,hbr,hx0,hx1,hxi⟩:=hc k hlt;have hbr':br < b:=by have:=HGS.out; omega
    have hy0:=(hbel.cell (p:=⟨br,orr + k * 2,none⟩) hbr').trans (HXV.out.cell hx0);have hy1:=(hbel.cell (p:=⟨br,orr + k * 2 + 1,none⟩) hbr').trans (HXV.out.cell hx1);obtain ⟨Xr,cxr,rfl,-,-,-⟩:=hxi.opened;have hwr:Below w.heap.size w wr:=Below.trans HXV.out (hbel.mono (by have:=HGS.out; omega))
    have HIW:=Lib.hid (hxi.ext hwr);have HDK:=Lib.hid (HDI.out k hlt);have HLK:Hid ((Q0w p k).length <= 4096):=Lib.hid (by have:=HL8.out k hlt; omega)
    have HSUC:Hid (Q6s p (k + 1) = Z0m (Q5x (Q0w p k)) (.bool (Q4q p k)) (Q6s p k)):=Lib.hid rfl;obtain ⟨lc,hlc⟩:∃ x,Q0w p k = x:=⟨_,rfl⟩;obtain ⟨cb,hcb⟩:∃ x,Q4q p k = x:=⟨_,rfl⟩;obtain ⟨L,hL⟩:∃ x,Q6s p k = x:=⟨_,rfl⟩;rw [hlc] at hy0 HIW HDK HLK HSUC;rw [hcb] at hy1 HSUC;rw [hL] at HMP HSUC;have hkI:(k:Int) < p.length:=by omega
    have hxb:=Ext.box wr (.cells #[.slice Xr lc.length cxr,.bool cb] 167);have kr:=Blk.made wr 167 #[.slice Xr lc.length cxr,.bool cb];have HXB:=Lib.hid hxb;have hwlt:b + 1 < wr.heap.size:=hblk.lt;clear hc hx0 hx1 hxi hwr hlc hcb hL hmap hblk hbel hbr hbr' hxb
    go_light
    go_wp2;obtain ⟨W5,hW5⟩:∃ X,wr.alloc (.cells #[.slice Xr lc.length cxr,.bool cb] 167) = X:=⟨_,rfl⟩;obtain ⟨g,hg⟩:∃ x,wr.heap.size = x:=⟨_,rfl⟩;rw [hW5] at HXB kr ⊢;rw [hg] at kr hwlt ⊢;have KR:=Lib.hid kr;have hdr:=(Ext.refl W5).drew;clear hW5 kr hy0 hy1 hg;refine Flow.Q5l [.w,.p,.w,.w,.p,.w,.last] [0,1,2,3,4,5,6] [[],[],[1],[1,2],[],[4],[0,1,2,3,4,5]] [6]
     [.c 0 (.map (some b)),.c 1 (.pointer (some ⟨g,0,none⟩)),.c 2 (.slice Xr lc.length cxr),.c 3 (.string (Q5x lc)),.c 4 (.pointer (some ⟨g,1,none⟩)),.c 5 (.bool cb),.none]
     [fun v w1 w'=>Q5n w' b (Z0m (Q5x lc) (.bool cb) L) /\ (∀ n,n <= b -> Below n w1 w') /\ w1.grownBy w' (some b)] (by kernel_rfl) rfl (by kernel_rfl) ⟨?g0,?g1,?g2,?g3,?g4,?g5,?g6,trivial⟩ ?post
    case g0=>
     intro v w1 hx;intro bb hbb;subst hbb;have n0:w1.cell? ⟨b + 1,0,none⟩ = some (.map (some b)):=(HBL.out.ext (HXB.out.trans (hdr.trans hx))).cell 0;intro K hK;go_simp;exact hK _ _ (Ext.refl _) rfl
    case g1 | g4=>
     intro v w1 hx;intro bb hbb;subst hbb;refine ⟨_,fun w=>?_,rfl⟩;go_simp
    case g2 | g5=>
     intro v w1 hx;(repeat intro (zq:v _ = _));intro bb hbb;subst hbb;have n0:w1.cell? ⟨g,0,none⟩ = some (.slice Xr lc.length cxr):=(KR.out.ext (hdr.trans hx)).cell 0;have n1:w1.cell? ⟨g,1,none⟩ = some (.bool cb):=(KR.out.ext (hdr.trans hx)).cell 1;intro K hK;go_simp;exact hK _ _ (Ext.refl _) rfl
    case g3=>
     intro v w1 hx;(repeat intro (zq:v _ = _));intro bb hbb;subst hbb;intro K hK;go_simp;refine Q0e (Y1s w1 _ lc (HIW.out.ext (HXB.out.trans (hdr.trans hx))) HLK.out HDK.out) ?_;rintro e w2 ⟨rfl,hx2⟩;exact ⟨_,rfl,hK _ _ hx2 rfl⟩
    case g6=>
     intro v w1 hx;(repeat intro (zq:v _ = _));intro wl hT;obtain rfl:wl = w1:=hT;intro bb hbb;intro K hK;have o1:bb.eval (.tmp 16) = .map (some b):=by rw [hbb]; dsimp only; (try simp (discharger:=decide) only [eval_put_ne]); rw [Q0a (by exact (by decide:16 < 27))]; assumption
     have o2:bb.eval (.tmp 19) = .string (Q5x lc):=by rw [hbb]; dsimp only; (try simp (discharger:=decide) only [eval_put_ne]); rw [Q0a (by simp only [size_put]; exact (by decide:19 < 27))]; assumption
     have o3:bb.eval (.tmp 21) = .bool cb:=by rw [hbb]; dsimp only; (try simp (discharger:=decide) only [eval_put_ne]); rw [Q0a (by simp only [size_put]; exact (by decide:21 < 27))]; assumption
     obtain ⟨w2,hput,hm2,hb2,hg2⟩:=Y8s (P:=Tryz.prog) (HMP.out.ext (HXB.out.trans (hdr.trans hx))) Z9d J2j (Q5x lc) (.bool cb);exact Z6m (.tmp 16) (.tmp 19) (.tmp 21) rfl o1 o2 o3 hput (fun vv=>hK _ _ ⟨hm2,hb2,hg2⟩)
    case post =>
     intro v w1 hx;(iterate 6 intro (zq:v _ = _));intro w2 hE;replace hE:(fun v w1 w'=>Q5n w' b (Z0m (Q5x lc) (.bool cb) L) /\ (∀ n,n <= b -> Below n w1 w') /\ w1.grownBy w' (some b)) v w1 w2:=hE;simp only [Flow.acts,Act.put];go_simp;obtain ⟨hm2,hb2,hg2⟩:=hE;have hxx:=HXB.out.trans (hdr.trans hx);have hbl1:=HBL.out.ext hxx;have hbl2:Blk w2 (b + 1) 245 #[.map (some b)]:=by
      unfold Blk at hbl1 ⊢;rw [hg2.block (b + 1) (Array.getElem?_eq_some_iff.1 hbl1).1 (by intro e; injection e with e; omega)]
      exact hbl1
     have hbe2:Below b V w2:=Below.trans HBE.out (Below.trans (hxx.mono (by have:=HBL.out.lt; omega)) (hb2 b (Nat.le_refl _)))
     have HM2:=Lib.hid hm2;have HB2:=Lib.hid hbl2;have HE2:=Lib.hid hbe2;clear hx hdr hm2 hb2 hg2 hxx hbl1 hbl2 hbe2;(repeat clear zq);go_wp2;go_roundw
     case rel=>exact ⟨k + 1,by omega,by go_num,by rw [HSUC.out]; exact HM2.out,HB2.out,HE2.out⟩
     case measure=>simp [intOf]; omega
  . have hke:k = p.length:=by omega
    subst hke;have ks:=HKS.out.below hbel hwb;have c2:=ks.cell 2;simp only [Go.Tw.gA,Go.Tw.gB,Go.Tw.gC] at c2;have hwr:Ext w wr:=Below.trans HXV.out (hbel.mono (by have:=HGS.out; omega))
    have HMC:=Lib.hid (X9a wr _ s p (b + 1) b (H2.out.members.ext hwr) HS.out HND.out HDI.out (hblk.cell 0) hmap);have HWR:=Lib.hid hwr;clear ks hmap hblk hbel hwr;go_wp2_with (go_at_call 167; refine HMC.out.mono ?_; rintro e w5 ⟨x,vs,rfl,hx1,hx2,hx5⟩; have HXX:=Lib.hid hx1; have HRR:=Lib.hid hx2; have HX5:=Lib.hid hx5; clear hx1 hx2 hx5);go_ret;exact ⟨x,rfl,Q0t.J2u HXX.out (HRR.out.J2x HCLB.out) (by rw [Q2v]; omega),HWR.out.trans HX5.out⟩
end Go.Proofs
