/- Contract: Tested. Contract of the reference: Tested. Setting one event's chance: the weight with it sure is not less than with it out; the share of an event. Plain lists and sums. Minimal sets of a monotone property: each set that has it contains a minimal one, no minimal one contains another one; what this says about the cuts and paths of a tree. Plain law for FaultMonotone. Contract of the reference: Dual. Contracts on the way to Merge: mapped(numbers, a closure of three boxes), moved; mapped names; slices.Index, Contains, IndexFunc, ContainsFunc over strings. Contracts: slices.Index, Contains, IndexFunc, ContainsFunc over strings; mapped names; Merge's names. Contracts: mapped(basics, their names), mapped(causes, their names); slices.Concat of two lists of strings; Merge's names. Contract of the reference: Without. -/
import Derived.Test.YtgopmebjbkdfgaaGreatDoorFm27
import Derived.Test.YtgopmebjbkdfgaaGreatDoorFm18
import Derived.Test.YtgopmebjbkdfgaaGreatDoorFm37
import Derived.Test.YtgopmebjbkdfgaaGreatDoorFm12
import Derived.Test.YtgopmebjbkdfgaaGreatDoorFm19
import Derived.Test.YtgopmebjbkdfgaaGreatDoorFm16
import Derived.Test.YtgopmebjbkdfgaaGreatDoorFm30
import Derived.Test.YtgopmebjbkdfgaaGreatDoorFm28
set_option maxRecDepth 1000000
set_option maxHeartbeats 64000000
set_option linter.unusedVariables false
set_option linter.unusedSimpArgs false
set_option linter.constructorNameAsVariable false
namespace Go.Proofs
open Go.RowKit Go.Tw Go.Flow
def cT (t:Tree) (mc:Nat -> Value) (k:Nat) (c:Int) (i:Nat):ByteArray × Int × Value:=if i = k then (cName t.causes k,c,mc k) else cF t mc i
end Go.Proofs
namespace Go.Proofs
open Go.RowKit Go.Tw Go.Flow
theorem Y6y {α:Type} {enc:α -> List Value} {k:Nat} (hk:∀ x,(enc x).length = k) {x:Value} {y:α}:∀ (l:List α) (i j:Nat) (hi:i < l.length),j < k -> enc y = (enc l[i]).set j x -> (l.flatMap enc).set (i * k + j) x = (l.set i y).flatMap enc
 | a :: l,0,j,_,hj,he=>by
   rw [List.set_cons_zero,List.flatMap_cons,List.flatMap_cons,he,Nat.zero_mul,Nat.zero_add,List.set_append_left _ _ (by rw [hk]; exact hj)]
   rfl
 | a :: l,i + 1,j,hi,hj,he=>by
   have ih:=Y6y hk l i j (by simpa using hi) hj (by simpa using he)
   rw [List.set_cons_succ,List.flatMap_cons,List.flatMap_cons,<- ih,List.set_append_right _ _ (by rw [hk,Nat.add_mul]; omega)]
   congr 2
   rw [hk,Nat.add_mul];omega
theorem Q7m {α:Type} {w:World} {base k:Nat} {e:TypeId} {enc:α -> List Value} {v:Value} {l:List α} (h:Q1d w base e k enc v l) (h0:0 < l.length) :
    ∃ g cap cur,v = .slice (some ⟨g,0,none⟩) l.length cap /\ base <= g /\ Blk w g e cur /\ l.length <= cap /\ cap <= maxLen /\ cur.size = cap * k /\ cur.toList.take (l.length * k) = l.flatMap enc:=by
 rcases h.2 with ⟨_,hn⟩ | ⟨g,cap,cur,hv,hb,hg,hc,hm,hs,ht⟩
 . omega
 . exact ⟨g,cap,cur,hv,hb,hg,hc,hm,hs,ht⟩
theorem Z3e {α:Type} {w':World} {base k g cap:Nat} {e:TypeId} {enc:α -> List Value} {cur:Array Value} {l:List α} {i j:Nat} {x:Value} {y:α} (hk:∀ x,(enc x).length = k) (hb:base <= g) (hc:l.length <= cap) (hm:cap <= maxLen) (hs:cur.size = cap * k) (ht:cur.toList.take (l.length * k) = l.flatMap enc)
    (hi:i < l.length) (hj:j < k) (he:enc y = (enc l[i]).set j x) (hw:Blk w' g e (cur.setIfInBounds (i * k + j) x)):Q1d w' base e k enc (.slice (some ⟨g,0,none⟩) l.length cap) (l.set i y):=by
 refine ⟨by rw [Q4a hk],.inr ⟨g,cap,_,by rw [List.length_set],hb,hw,by rw [List.length_set]; exact hc,hm,by simpa using hs,?_⟩⟩
 rw [List.length_set,Array.toList_setIfInBounds,List.take_set,ht,Y6y hk l i j hi hj he]
theorem Q5e {α:Type} {w:World} {g k:Nat} {e:TypeId} {enc:α -> List Value} {cur:Array Value} {l:List α} (hk:∀ x,(enc x).length = k) (hb:Blk w g e cur) (ht:cur.toList.take (l.length * k) = l.flatMap enc) {i j:Nat} (hi:i < l.length) (hj:j < k):w.cell? ⟨g,i * k + j,none⟩ = (enc l[i])[j]?:=by
 rw [hb.cell,<- flat_get hk l i j hi hj,<- ht,List.getElem?_take,if_pos,Array.getElem?_toList];have:(i + 1) * k <= l.length * k:=Nat.mul_le_mul_right k hi;rw [Nat.add_mul] at this;omega
end Go.Proofs
namespace Go.Proofs
open Go.Tw
def LeB (l m:List Bool):Prop:=l.length = m.length /\ ∀ i,bx l i = true -> bx m i = true
theorem LeB.failing {l m:List Bool} (h:LeB l m) (inputs:List Int):failing l inputs <= failing m inputs:=by
 unfold Tw.failing;exact List.countP_mono_left fun x _ hx=>h.2 _ hx
end Go.Proofs
namespace Go.Proofs
open Go.Tw
def Z6b (a b:Nat):Prop:=∀ i,a.testBit i = true -> b.testBit i = true
theorem Z6b.refl (a:Nat):Z6b a a:=fun _ h=>h
theorem Z6b.trans {a b c:Nat} (h:Z6b a b) (k:Z6b b c):Z6b a c:=fun i hi=>k i (h i hi)
theorem Z6b.clear (a b:Nat):Z6b (Q2v a b) a:=fun i hi=>by rw [Q4u,Bool.and_eq_true] at hi; exact hi.1
end Go.Proofs
namespace Go.Proofs
open Go.RowKit Go.Tw Go.Flow
def part {α:Type} (f:α -> α) (l:List α) (k:Nat):List α:=(l.take k).map f ++ l.drop k
theorem Y5r {α:Type} (f:α -> α) (l:List α) (k:Nat):(part f l k).length = l.length:=by
 unfold part; simp only [List.length_append,List.length_map,List.length_take,List.length_drop]; omega
theorem Z4w {α:Type} (f:α -> α) (l:List α):part f l l.length = l.map f:=by
 unfold part; rw [List.take_length,List.drop_length,List.append_nil]
theorem Z8c {α:Type} (f:α -> α) (l:List α) (k:Nat) (h:k < l.length) (h':k < (part f l k).length):(part f l k)[k] = l[k]:=by
 have h1:(part f l k)[k]? = l[k]?:=by
  have e:k - ((l.take k).map f).length = 0:=by simp; omega
  unfold part;rw [List.getElem?_append_right (by simp; omega),e,List.getElem?_drop,Nat.add_zero]
 rw [List.getElem?_eq_getElem h',List.getElem?_eq_getElem h] at h1;exact Option.some.inj h1
theorem Z2j {α:Type} (f:α -> α) (l:List α) (k:Nat) (h:k < l.length):(part f l k).set k (f l[k]) = part f l (k + 1):=by
 unfold part;rw [List.set_append_right _ _ (by simp; omega),List.take_add_one,List.getElem?_eq_getElem h,Option.toList_some,List.map_append,List.append_assoc,List.drop_eq_getElem_cons h]
 have e:k - ((l.take k).map f).length = 0:=by simp; omega
 rw [e];rfl
end Go.Proofs
namespace Go.Proofs
open Go.RowKit Go.Tw Go.Flow
def Q6m (basics events gates x:Int):Int:=if x < basics then x + events else x + gates
def Q3d (basics events gates:Int) (l:List Int):List Int:=l.map (Q6m basics events gates)
theorem Z0k (f:Int -> Int) (l:List Int) {k:Nat} (hk:k < l.length):(l.map f).take k ++ [f (ix l k)] = (l.map f).take (k + 1):=by
 rw [List.take_succ_eq_append_getElem (by simpa using hk),Q6i hk]
 simp
theorem Y1g (w:World) (v:Value) (l:List Int) (g:Nat) (c1 c2 c3:Value) (f:Int -> Int) (hv:Q0f w v l) (hle:l.length <= 4096) (eg:∀ args w,(callFunc g args).run Tryz.prog w = .ok (.enter g args) w)
    (hf:∀ W x,Ext w W -> x ∈ l -> Calls Tryz.prog g #[.int .i64 x,c1,c2,c3] W fun e W'=>e = .returned (.int .i64 (f x)) /\ Ext W W') :
    Calls Tryz.prog 112 #[v,.func (.func g) #[] #[c1,c2,c3]] w fun e w'=>∃ x,e = .returned x /\ Q0r w' w.heap.size 3 (.int .i64) x (l.map f) /\ Ext w w':=by
 obtain ⟨i0,hi,hz0,hz1,hz2⟩:=info_parts Tryz.info3;obtain ⟨A,cap,rfl,hl,hcap,hc⟩:=hv.opened;have HC:=Lib.hid hc;have HF:=Lib.hid hf;clear hv hc hf;go_enter Tryz.func112,Tryz.ntmps112;go_wp2
 go_loopw [5,10] (fun o i wr=>∃ (k:Nat),k <= l.length /\ i = .int .i64 k /\ Q0r wr w.heap.size 3 (.int .i64) o ((l.map f).take k) /\ Ext w wr) (fun _ i _=>l.length - (intOf i).toNat)
 case atStart=>exact ⟨0,Nat.zero_le _,rfl,Q0r.nil _ _ _ _,Ext.refl _⟩
 case round =>
  obtain ⟨k,hk,rfl,hown,hx⟩:=hrel;have hlen:((l.map f).take k).length = k:=by rw [List.length_take,List.length_map]; omega
  by_cases hlt:k < l.length
  . obtain ⟨b,off,rfl,hcell⟩:=HC.out k hlt
    have HTK:=Lib.hid (Z0k f l hlt);have HFS:=Lib.hid (HF.out wr (ix l k) hx (by rw [Q6i hlt]; exact List.getElem_mem hlt))
    obtain ⟨s,hs⟩:∃ s,ix l k = s:=⟨_,rfl⟩;rw [hs] at hcell HTK HFS;obtain ⟨y,hy⟩:∃ y,f s = y:=⟨_,rfl⟩;rw [hy] at HFS HTK;replace hcell:=hx.cell hcell;have hll:((l.map f).take k).length <= 4096:=by omega
    have HOWN:=Lib.hid hown;clear hs hlen hy hown;go_wp2_with (first | (refine HFS.out.mono ?_; rintro e w9 ⟨rfl,hx9⟩; have hown9:=HOWN.out.below hx9; have hx99:=hx.trans hx9) | (at_builtin; refine wpList_append_own _ rfl _ _ 40 rfl (w.heap.size) 3 i0 (.int .i64 0) 1 8 Tryz.underlying40 hi hz0 hz1 hz2 rfl (by decide) _ _ _ rfl (World.ownsRow.alloc hown9 _) ⟨w9.heap.size,0,none⟩ 1 1 [.int .i64 y] rfl rfl ?_ ?_ ?_ ?_ ?_ ?_; exact Q7q _ _ _; (focus (simp [Value.oneCell'])); (focus (unfold maxLen; omega)); (focus omega); (focus (have:=hx99.size; simp at this ⊢; omega)); intro v' w1 hown' hgrow _))
    have hx':=Q4g hx99 hown9 (Nat.le_refl _) hgrow;go_wp2;go_roundw
    case rel=>exact ⟨k + 1,by omega,by go_num,by rw [<- HTK.out]; exact Q0r.snoc hown',hx'⟩
    case measure=>simp [intOf]; omega
  . have HE:Hid ((l.map f).take k = l.map f):=Lib.hid (by rw [List.take_of_length_le (by rw [List.length_map]; omega)])
    rw [HE.out] at hown;have HOWN:=Lib.hid hown;clear hown hlen;go_wp2;go_ret;exact ⟨_,rfl,HOWN.out,hx⟩
theorem Y8g (W:World) (x b e g:Int) (B1 B2 B3:Nat) (hx:0 <= x /\ x < 1000) (he:0 <= e /\ e < 1000) (hg:0 <= g /\ g < 1000)
    (h1:W.cell? ⟨B1,0,none⟩ = some (.int .i64 b)) (h2:W.cell? ⟨B2,0,none⟩ = some (.int .i64 e)) (h3:W.cell? ⟨B3,0,none⟩ = some (.int .i64 g)) :
    Calls Tryz.prog 113 #[.int .i64 x,.pointer (some ⟨B1,0,none⟩),.pointer (some ⟨B2,0,none⟩),.pointer (some ⟨B3,0,none⟩)] W fun e' W'=>e' = .returned (.int .i64 (Q6m b e g x)) /\ Ext W W':=by
 obtain ⟨hx0,hx1⟩:=hx;obtain ⟨he0,he1⟩:=he;obtain ⟨hg0,hg1⟩:=hg
 by_cases hlt:x < b
 . have HM:Hid (Q6m b e g x = x + e):=Lib.hid (by unfold Q6m; rw [if_pos hlt])
   go_enter Tryz.func113,Tryz.ntmps113;go_wp2;go_ret;exact ⟨by rw [HM.out]; rfl,Ext.refl _⟩
 . have HM:Hid (Q6m b e g x = x + g):=Lib.hid (by unfold Q6m; rw [if_neg hlt])
   go_enter Tryz.func113,Tryz.ntmps113;go_wp2;go_ret;exact ⟨by rw [HM.out]; rfl,Ext.refl _⟩
theorem X6g (w:World) (v:Value) (l:List Int) (b e g:Int) (hv:Q0f w v l) (hle:l.length <= 4096) (hm:∀ x ∈ l,0 <= x /\ x < 1000) (he:0 <= e /\ e < 1000) (hg:0 <= g /\ g < 1000) :
    Calls Tryz.prog 62 #[v,.int .i64 b,.int .i64 e,.int .i64 g] w fun e' w'=>∃ x,e' = .returned x /\ Q0r w' w.heap.size 3 (.int .i64) x (Q3d b e g l) /\ Ext w w':=by
 obtain ⟨A,cap,rfl,_,_,_⟩:=hv.opened;have HV:=Lib.hid hv;have HM:=Lib.hid hm;have HE:=Lib.hid he;have HG:=Lib.hid hg;clear hv hm he hg;go_enter Tryz.func62,Tryz.ntmps62;go_wp2_with fail;change Calls _ _ _ (((w.alloc (.cells #[.int .i64 b] 3)).alloc (.cells #[.int .i64 e] 3)).alloc (.cells #[.int .i64 g] 3)) _;obtain ⟨W,hWW,k0,k1,k2,HXW,eW⟩:=X2v w 3 #[.int .i64 b] 3 #[.int .i64 e] 3 #[.int .i64 g];rw [hWW];clear hWW;have K0:=Lib.hid k0;have K1:=Lib.hid k1;have K2:=Lib.hid k2;have HS:Hid (w.heap.size <= W.heap.size):=Lib.hid (by omega)
 clear k0 k1 k2 eW;refine (Y1g W _ l 113 _ _ _ (Q6m b e g) (HV.out.ext HXW.out) hle (enters_of Tryz.func113 (by kernel_rfl) rfl) (fun W' x hx hm=>Y8g W' x b e g _ _ _ (HM.out x hm) HE.out HG.out ((K0.out.ext hx).cell 0) ((K1.out.ext hx).cell 0) ((K2.out.ext hx).cell 0))).mono ?_
 rintro e' w1 ⟨x,rfl,ho,hx1⟩;have HO:Hid (Q0r w1 w.heap.size 3 (.int .i64) x (Q3d b e g l)):=Lib.hid (ho.weaken HS.out);have HX1:=Lib.hid hx1;clear ho hx1;go_wp2;go_ret;exact ⟨_,rfl,HO.out,HXW.out.trans HX1.out⟩
end Go.Proofs
namespace Go.Proofs
open Go.RowKit Go.Tw Go.Flow
theorem Y5b (w:World) (v:Value) (l:List ByteArray) (s:ByteArray) (hv:Q2t w v l) :
    Calls Tryz.prog 111 #[v,.string s] w fun e w'=>∃ r:Int,e = .returned (.int .i64 r) /\ decide (0 <= r) = Y3b l s /\ w = w':=by
 obtain ⟨A,cap,rfl,hl,hcap,hc⟩:=hv.opened;clear hv;go_enter Tryz.func111,Tryz.ntmps111;go_wp2
 go_loop [8] (fun i=>∃ k:Nat,k <= l.length /\ i = .int .i64 k /\ Y3b (l.drop k) s = Y3b l s) (fun i=>l.length - (intOf i).toNat)
 case atStart=>exact ⟨0,Nat.zero_le _,rfl,rfl⟩
 case round =>
  obtain ⟨k,hk,rfl,hr⟩:=hrel;have HR:=Lib.hid hr; clear hr
  by_cases hlt:k < l.length
  . obtain ⟨b,off,rfl,hcell⟩:=hc k hlt
    have HD:=Lib.hid (Y5k hlt);obtain ⟨y,hy⟩:∃ y,sx l k = y:=⟨_,rfl⟩;rw [hy] at hcell HD;clear hc hy
    by_cases hx:y = s
    . have HX:=Lib.hid (str_eq hx)
      have hx1:=toList_eq rfl hx.symm;clear hx;go_wp2;go_ret;exact ⟨k,rfl,by rw [<- HR.out,HD.out,X2h,HX.out,Bool.true_or]; simp,rfl⟩
    . have HX:=Lib.hid (Q3c hx)
      have hx1:=Q5c rfl (fun e=>hx e.symm);clear hx;go_wp2;go_round
      case rel=>exact ⟨k + 1,by omega,by go_num,by rw [<- HR.out,HD.out,X2h,HX.out,Bool.false_or]⟩
      case measure=>simp [intOf]; omega
  . clear hc
    go_wp2;go_ret;exact ⟨-1,rfl,by rw [<- HR.out,List.drop_eq_nil_of_le (by omega)]; rfl,rfl⟩
theorem X7i (w:World) (v:Value) (l:List ByteArray) (s:ByteArray) (hv:Q2t w v l) :
    Calls Tryz.prog 61 #[v,.string s] w fun e w'=>e = .returned (.bool (Y3b l s)) /\ w = w':=by
 obtain ⟨A,cap,rfl,hl,hcap,hc⟩:=hv.opened;have HV:=Lib.hid hv;clear hv hc;go_enter Tryz.func61,Tryz.ntmps61;go_wp2_with (go_at_call 111; refine (Y5b _ _ l s HV.out).mono ?_; rintro e w' ⟨r,rfl,hr,rfl⟩; have HR:=Lib.hid hr; clear hr);go_ret;exact ⟨Q1g HR.out,rfl⟩
theorem Y1d (w:World) (v:Value) (l:List ByteArray) (g:Nat) (c:Value) (p:ByteArray -> Bool) (hv:Q2t w v l) (eg:∀ args w,(callFunc g args).run Tryz.prog w = .ok (.enter g args) w)
    (hp:∀ W x,Ext w W -> x ∈ l -> Calls Tryz.prog g #[.string x,c] W fun e W'=>e = .returned (.bool (p x)) /\ Ext W W') :
    Calls Tryz.prog 110 #[v,.func (.func g) #[] #[c]] w fun e w'=>∃ r:Int,e = .returned (.int .i64 r) /\ decide (0 <= r) = l.any p /\ Ext w w':=by
 obtain ⟨A,cap,rfl,hl,hcap,hc⟩:=hv.opened;have HP:=Lib.hid hp;have HC:=Lib.hid hc;clear hv hp hc;go_enter Tryz.func110,Tryz.ntmps110;go_wp2
 go_loopw [8] (fun i wr=>∃ k:Nat,k <= l.length /\ i = .int .i64 k /\ (l.drop k).any p = l.any p /\ Ext w wr) (fun i _=>l.length - (intOf i).toNat)
 case atStart=>exact ⟨0,Nat.zero_le _,rfl,rfl,Ext.refl _⟩
 case round =>
  obtain ⟨k,hk,rfl,hr,hx⟩:=hrel;have HR:=Lib.hid hr; clear hr
  by_cases hlt:k < l.length
  . obtain ⟨b,off,rfl,hcell⟩:=HC.out k hlt
    replace hcell:=hx.cell hcell;have hmem:sx l k ∈ l:=by rw [Z3h hlt]; exact List.getElem_mem hlt
    have hd:=Y5k hlt;have HST:Hid (l.any p = (p (sx l k) || (l.drop (k + 1)).any p)):=Lib.hid (by rw [<- HR.out,hd,List.any_cons])
    obtain ⟨y,hy⟩:∃ y,sx l k = y:=⟨_,rfl⟩;have HPY:=Lib.hid (HP.out wr (sx l k) hx hmem);rw [hy] at HPY hcell HST;obtain ⟨q,hq⟩:∃ q,p y = q:=⟨_,rfl⟩;rw [hq] at HPY HST;clear hq hy hd hmem;cases q with
    | true =>
      go_wp2_with (refine HPY.out.mono ?_; rintro e w9 ⟨rfl,hx9⟩);go_ret;exact ⟨k,rfl,by rw [HST.out]; simp,hx.trans hx9⟩
    | false =>
      go_wp2_with (refine HPY.out.mono ?_; rintro e w9 ⟨rfl,hx9⟩);go_roundw
      case rel=>exact ⟨k + 1,by omega,by go_num,by rw [HST.out,Bool.false_or],hx.trans hx9⟩
      case measure=>simp [intOf]; omega
  . go_wp2
    go_ret;exact ⟨-1,rfl,by rw [<- HR.out,List.drop_eq_nil_of_le (by omega)]; rfl,hx⟩
theorem X6q (w:World) (v:Value) (l:List ByteArray) (g:Nat) (c:Value) (p:ByteArray -> Bool) (hv:Q2t w v l) (eg:∀ args w,(callFunc g args).run Tryz.prog w = .ok (.enter g args) w)
    (hp:∀ W x,Ext w W -> x ∈ l -> Calls Tryz.prog g #[.string x,c] W fun e W'=>e = .returned (.bool (p x)) /\ Ext W W') :
    Calls Tryz.prog 59 #[v,.func (.func g) #[] #[c]] w fun e w'=>e = .returned (.bool (l.any p)) /\ Ext w w':=by
 obtain ⟨A,cap,rfl,hl,hcap,hc⟩:=hv.opened;have HV:=Lib.hid hv;have HP:=Lib.hid hp;clear hv hc hp;go_enter Tryz.func59,Tryz.ntmps59;go_wp2_with (refine (Y1d _ _ l g c p HV.out eg HP.out).mono ?_; rintro e w' ⟨r,rfl,hr,hx⟩; have HR:=Lib.hid hr; clear hr);go_ret;exact ⟨Q1g HR.out,hx⟩
theorem Y8l (W:World) (s:ByteArray) (B:Nat) (v:Value) (l:List ByteArray) (hB:W.cell? ⟨B,0,none⟩ = some v) (hv:Q2t W v l) :
    Calls Tryz.prog 60 #[.string s,.pointer (some ⟨B,0,none⟩)] W fun e W'=>e = .returned (.bool (Y3b l s)) /\ Ext W W':=by
 obtain ⟨A,cap,rfl,hl,hcap,hc⟩:=hv.opened;have HV:=Lib.hid hv;clear hv hc;go_enter Tryz.func60,Tryz.ntmps60;go_wp2_with (go_at_call 61; refine (X7i _ _ l s HV.out).mono ?_; rintro e w' ⟨rfl,rfl⟩);go_ret;exact ⟨rfl,Ext.refl _⟩
end Go.Proofs
namespace Go.Proofs
open Go.RowKit Go.Tw Go.Flow
theorem Y3y (w:World) (nm:ByteArray) (ch:Int) :
    Calls Tryz.prog 54 #[.agg #[.string nm,.int .i64 ch]] w fun e w'=>e = .returned (.string nm) /\ Ext w w':=by
 have hk:=Blk.made w 103 #[.string nm,.int .i64 ch];have hx1:=Ext.box w (.cells #[.string nm,.int .i64 ch] 103);have c0:=hk.cell 0;simp only [Go.Tw.gA,Go.Tw.gB] at c0;clear hk;go_enter Tryz.func54,Tryz.ntmps54;go_wp2;go_ret;exact ⟨rfl,hx1⟩
theorem Y7x (l:List Basic) {k:Nat} (hk:k < l.length):(l.map fun x=>x.name).take k ++ [bName l k] = (l.map fun x=>x.name).take (k + 1):=by
 rw [List.take_succ_eq_append_getElem (by simpa using hk)]
 unfold bName;rw [getD_at hk];simp
theorem Y2o (w:World) (v:Value) (l:List Basic) (hv:Q2j w v l) (hle:l.length <= 1000) :
    Calls Tryz.prog 53 #[v,.func (.func 54) #[] #[]] w fun e w'=>∃ x,e = .returned x /\ Q0r w' w.heap.size 9 .string x (l.map fun x=>x.name) /\ Ext w w':=by
 obtain ⟨i0,hi,hz0,hz1,hz2⟩:=info_parts Tryz.X1v;obtain ⟨A,cap,rfl,hl,hcap,hc⟩:=hv.opened;have HC:=Lib.hid hc;clear hv hc;go_enter Tryz.func53,Tryz.ntmps53;go_wp2
 go_loopw [5,10] (fun o i wr=>∃ (k:Nat),k <= l.length /\ i = .int .i64 k /\ Q0r wr w.heap.size 9 .string o ((l.map fun x=>x.name).take k) /\ Ext w wr) (fun _ i _=>l.length - (intOf i).toNat)
 case atStart=>exact ⟨0,Nat.zero_le _,rfl,Q0r.nil _ _ _ _,Ext.refl _⟩
 case round =>
  obtain ⟨k,hk,rfl,hown,hx⟩:=hrel;have hlen:((l.map fun x=>x.name).take k).length = k:=by rw [List.length_take,List.length_map]; omega
  by_cases hlt:k < l.length
  . obtain ⟨b,off,rfl,hbw,e0,e1,hsh⟩:=HC.out k hlt
    have HTK:=Lib.hid (Y7x l hlt);obtain ⟨nm,hnm⟩:∃ s,bName l k = s:=⟨_,rfl⟩;rw [hnm] at e0 HTK;replace e0:=hx.cell e0;replace e1:=hx.cell e1;have hll:((l.map fun x=>x.name).take k).length <= 4096:=by omega
    clear hlen hnm hsh;go_wp2_with fail;refine (Y3y _ _ _).mono ?_;rintro e w9 ⟨rfl,hx9⟩;have hbx:=(Ext.box wr (.cells #[.string nm,.int .i64 (Q1j l k)] 103)).trans hx9;have hown2:=hown.below hbx;have hxx:=hx.trans hbx;clear e0 e1 hown hbx hx9;go_wp2_with (at_builtin; refine wpList_append_own _ rfl _ _ 72 rfl (w.heap.size) 9 i0 (.string emp) 1 16 Tryz.underlying72 hi hz0 hz1 hz2 rfl (by decide) _ _ _ rfl (World.ownsRow.alloc hown2 _) ⟨w9.heap.size,0,none⟩ 1 1 [.string nm] rfl rfl ?_ ?_ ?_ ?_ ?_ ?_; exact Q7q _ _ _; (focus (simp [Value.oneCell'])); (focus (unfold maxLen; omega)); (focus omega); (focus (have:=hxx.size; simp at this ⊢; omega)); intro v' w1 hown' hgrow _)
    have hx':=Q4g hxx hown2 (Nat.le_refl _) hgrow;go_wp2;go_roundw
    case rel=>exact ⟨k + 1,by omega,by go_num,by rw [<- HTK.out]; exact Q0r.snoc hown',hx'⟩
    case measure=>simp [intOf]; omega
  . have HE:Hid ((l.map fun x=>x.name).take k = l.map fun x=>x.name):=Lib.hid (by rw [List.take_of_length_le (by rw [List.length_map]; omega)])
    rw [HE.out] at hown;have HOWN:=Lib.hid hown;clear hown hlen;go_wp2;go_ret;exact ⟨_,rfl,HOWN.out,hx⟩
theorem Y4l (w:World) (nm:ByteArray) (ch:Int) (A:Option Addr) (n c:Nat) :
    Calls Tryz.prog 56 #[.agg #[.string nm,.int .i64 ch,.slice A n c]] w fun e w'=>e = .returned (.string nm) /\ Ext w w':=by
 have hk:=Blk.made w 106 #[.string nm,.int .i64 ch,.slice A n c];have hx1:=Ext.box w (.cells #[.string nm,.int .i64 ch,.slice A n c] 106);have c0:=hk.cell 0;simp only [Go.Tw.gA,Go.Tw.gB] at c0;clear hk;go_enter Tryz.func56,Tryz.ntmps56;go_wp2;go_ret;exact ⟨rfl,hx1⟩
theorem Y8q (l:List Q7s) {k:Nat} (hk:k < l.length):(l.map fun x=>x.name).take k ++ [cName l k] = (l.map fun x=>x.name).take (k + 1):=by
 rw [List.take_succ_eq_append_getElem (by simpa using hk)]
 unfold cName;rw [getD_at hk];simp
theorem Y2u (w:World) (v:Value) (l:List Q7s) (hv:Q3p w v l) (hle:l.length <= 1000) :
    Calls Tryz.prog 55 #[v,.func (.func 56) #[] #[]] w fun e w'=>∃ x,e = .returned x /\ Q0r w' w.heap.size 9 .string x (l.map fun x=>x.name) /\ Ext w w':=by
 obtain ⟨i0,hi,hz0,hz1,hz2⟩:=info_parts Tryz.X1v;obtain ⟨A,cap,rfl,hl,hcap,hc⟩:=hv.opened;have HC:=Lib.hid hc;clear hv hc;go_enter Tryz.func55,Tryz.ntmps55;go_wp2
 go_loopw [5,10] (fun o i wr=>∃ (k:Nat),k <= l.length /\ i = .int .i64 k /\ Q0r wr w.heap.size 9 .string o ((l.map fun x=>x.name).take k) /\ Ext w wr) (fun _ i _=>l.length - (intOf i).toNat)
 case atStart=>exact ⟨0,Nat.zero_le _,rfl,Q0r.nil _ _ _ _,Ext.refl _⟩
 case round =>
  obtain ⟨k,hk,rfl,hown,hx⟩:=hrel;have hlen:((l.map fun x=>x.name).take k).length = k:=by rw [List.length_take,List.length_map]; omega
  by_cases hlt:k < l.length
  . obtain ⟨b,off,m,rfl,hbw,e0,e1,e2,hmm,hsh⟩:=HC.out k hlt
    have HTK:=Lib.hid (Y8q l hlt);obtain ⟨nm,hnm⟩:∃ s,cName l k = s:=⟨_,rfl⟩;rw [hnm] at e0 HTK;replace e0:=hx.cell e0;replace e1:=hx.cell e1;obtain ⟨Am,cm,rfl,_,_,_⟩:=hmm.opened;replace e2:=hx.cell e2;clear hmm;have hll:((l.map fun x=>x.name).take k).length <= 4096:=by omega
    clear hlen hnm hsh;go_wp2_with fail;refine (Y4l _ _ _ _ _ _).mono ?_;rintro e w9 ⟨rfl,hx9⟩;have hbx:=(Ext.box wr (.cells #[.string nm,.int .i64 (Q1l l k),.slice Am (Q0e l k).length cm] 106)).trans hx9;have hown2:=hown.below hbx;have hxx:=hx.trans hbx;clear e0 e1 e2 hown hbx hx9;go_wp2_with (at_builtin; refine wpList_append_own _ rfl _ _ 72 rfl (w.heap.size) 9 i0 (.string emp) 1 16 Tryz.underlying72 hi hz0 hz1 hz2 rfl (by decide) _ _ _ rfl (World.ownsRow.alloc hown2 _) ⟨w9.heap.size,0,none⟩ 1 1 [.string nm] rfl rfl ?_ ?_ ?_ ?_ ?_ ?_; exact Q7q _ _ _; (focus (simp [Value.oneCell'])); (focus (unfold maxLen; omega)); (focus omega); (focus (have:=hxx.size; simp at this ⊢; omega)); intro v' w1 hown' hgrow _)
    have hx':=Q4g hxx hown2 (Nat.le_refl _) hgrow;go_wp2;go_roundw
    case rel=>exact ⟨k + 1,by omega,by go_num,by rw [<- HTK.out]; exact Q0r.snoc hown',hx'⟩
    case measure=>simp [intOf]; omega
  . have HE:Hid ((l.map fun x=>x.name).take k = l.map fun x=>x.name):=Lib.hid (by rw [List.take_of_length_le (by rw [List.length_map]; omega)])
    rw [HE.out] at hown;have HOWN:=Lib.hid hown;clear hown hlen;go_wp2;go_ret;exact ⟨_,rfl,HOWN.out,hx⟩
end Go.Proofs
namespace Go.Tw
open Go.RowKit Go.Flow
theorem Q5f {α:Type} {P:Program} {K:Value -> World -> Prop} {o:Oper} {a:Act} {w:World} (s x:Operand) (t:TypeId) (ho:o.op = .call { callee:=.builtin .append,args:=#[s,x],argTypes:=#[t,t] })
    (base:Nat) (e:TypeId) (i:TypeInfo) (z:Value) (k bytes:Nat) (ht:P.underlying t = some (.slice e)) (hi:P.info? e = some i) (hz:i.zero = some z) (hsize:i.size = k) (hby:i.bytes = bytes) (hzs:z.cells.size = k) (hk0:0 < k)
    (enc:α -> List Value) (hk:∀ x,(enc x).length = k) (v:Value) (xs ys:List α) (hs:a.eval s = v) (hown:Q1d w base e k enc v xs) (A:Option Addr) (c:Nat) (hx:a.eval x = .slice A ys.length c)
    (hA:0 < ys.length -> ∃ ad,A = some ad /\ ∀ j u,(ys.flatMap enc)[j]? = some u -> w.cell? (ad.add j) = some u) (h1:∀ u ∈ ys.flatMap enc,u.oneCell' = true)
    (h63:xs.length + ys.length <= 100000) (hb:bytes <= 1000) (hbase:base <= w.heap.size)
    (h:∀ v' w',Q1d w' base e k enc v' (xs ++ ys) -> w.grownBy w' v.ownBlock -> K v' w'):gives P K ((execOp a.eval o).run P w):=by
 rcases Nat.eq_zero_or_pos ys.length with h0 | h0
 . have e0:ys = []:=List.eq_nil_of_length_eq_zero h0
   subst e0;obtain ⟨b,c',rfl,hcap⟩:=hown.shape;unfold execOp;simp only [ho,resolve,invoke,builtin,Sem.run_bind,Sem.run_pure,Result.andThen_ok,List.map_toArray,List.map_cons,List.map_nil,hs,hx];rw [List.length_nil,Q7o (P:=P) w t o.type e i ht hi b A xs.length c' c hcap];exact h _ _ (by simpa using hown) ⟨rfl,rfl,rfl,Nat.le_refl _,fun _ _ _=>rfl⟩
 . obtain ⟨ad,rfl,hnews⟩:=hA h0
   have hbytes:(xs.length + ys.length) * bytes <= 140737488355328:=by
    have:(xs.length + ys.length) * bytes <= 100000 * 1000:=Nat.mul_le_mul h63 hb;omega
   obtain ⟨v',w',hr,h2,h3,h4⟩:=run_append_own (P:=P) w base t o.type e i z k bytes ht hi hz hsize hby hzs hk0 v xs.length (xs.flatMap enc) hown ad ys.length c (ys.flatMap enc) (Q4a hk ys) hnews h1 (by unfold maxLen; omega) hbytes hbase
   unfold execOp;simp only [ho,resolve,invoke,builtin,Sem.run_bind,Sem.run_pure,Result.andThen_ok,List.map_toArray,List.map_cons,List.map_nil,hs,hx,hr];refine h v' w' ?_ h3;unfold Q1d;rw [List.length_append,List.flatMap_append];exact h2
end Go.Tw
namespace Go.Proofs
open Go.RowKit Go.Tw Go.Flow
theorem X9e {l:List (ByteArray × Int × Value)} (h:∀ x ∈ l,x.2.2.oneCell' = true):∀ u ∈ l.flatMap enc3,u.oneCell' = true:=by
 intro u hu;obtain ⟨x,hx,hu⟩:=List.mem_flatMap.1 hu;simp only [enc3,List.mem_cons,List.not_mem_nil,or_false] at hu
 rcases hu with rfl | rfl | rfl
 . rfl
 . rfl
 . exact h x hx
end Go.Proofs
