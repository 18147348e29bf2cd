/- Contract: the program's Parse. -/
import Derived.Test.YtgopmebjbkdfgaaGreatDoorTx35
import Derived.Test.YtgopmebjbkdfgaaGreatDoorTx09
set_option maxRecDepth 1000000
set_option maxHeartbeats 64000000
set_option linter.unusedVariables false
set_option linter.unusedSimpArgs false
set_option linter.constructorNameAsVariable false
namespace Go.Proofs
open Go.RowKit Go.Tw Go.Flow
theorem Q0t {P:Program} {fn:Func} {p q r:Tmp} {T:TypeId} (h:fn.results = #[.cell p T,.tmp q,.tmp r]) {tmps:Array Value} {w:World} {g:Nat} (ht:tmps.getD p undef = .pointer (some ⟨g,0,none⟩)) {BT:TypeId} {cs:Array Value} (hb:Blk w g BT cs)
    (hA:∀ w,(isAgg T).run P w = .ok true w) (hS:∀ w,(sizeOf T).run P w = .ok cs.size w) {u v:Value} (hq:tmps.getD q undef = u) (hr:tmps.getD r undef = v):(results fn tmps).run P w = .ok (.tuple #[.agg cs,u,v]) w:=by
 unfold results;rw [h];simp only [List.mapM_toArray,List.mapM_cons,List.mapM_nil,Sem.run_bind,Sem.run_pure,ht,hq,hr,asAddr];simp [Q3b hb hA hS]
theorem X0y.Z9s {Y:Tys} {w w':World} {M O:Nat} {t:Tree} {vb vc vg:Value} {LC LG:List (ByteArray × Int × Value)} (hY:Y.Ok) (h:X0y Y w M O t vb vc vg LC LG) (hl:t.basics.length + t.causes.length + t.gates.length <= 10000) (hk:Keep Y.t w w'):Q5t w' vb vc vg t:=by
 have hb:=Q1m h.bas hY.bt hk;have hc:=Q1m h.cau hY.ct hk;have hg:=Q1m h.gat hY.gt hk;refine ⟨?_,(h.tc.keep hY.it hk).causes hc (by omega) h.sc,(h.tg.keep hY.it hk).gates hg (by omega) h.sg⟩
 refine hb.rows (by omega) Q9y (fun x hx=>⟨rfl,rfl,h.sb x hx⟩) (fun c c' x hc h=>?_)
 obtain ⟨h1,h2,h3⟩:=h;exact ⟨by rw [<- hc 0 (by omega)]; exact h1,by rw [<- hc 1 (by omega)]; exact h2,h3⟩
def J0h:Value -> Nat
 | .string s=>s.size
 | _=>0
def Z7q (s s1:ByteArray) (k:Nat) (t1:Tree):Prop :=
 Q4x t1 k (parts 10 (dat s1)) = Q4x noT 0 (parts 10 (dat s)) /\ s1.size + k <= s.size /\ t1.basics.length + t1.causes.length + t1.gates.length = k
theorem Z1n (s:ByteArray):Z7q s s 0 noT:=⟨rfl,by omega,rfl⟩
theorem Z7g {s s1:ByteArray} {k:Nat} {t1:Tree} (h:Z7q s s1 k t1) (h0:s1.toList = []):Q4x noT 0 (parts 10 (dat s)) = if t1.err = 0 then (t1,0,0) else (noT,(k:Int),t1.err):=by
 rw [<- h.1];have e:dat s1 = []:=by rw [toList_nil_iff_emptyBytes] at h0; rw [h0]; rfl
 rw [e];rfl
theorem Z6b {s s1:ByteArray} {k:Nat} {t1:Tree} (h:Z7q s s1 k t1) (h0:¬ s1.toList = []) (h1:(10:UInt8) ∉ dat s1):Q4x noT 0 (parts 10 (dat s)) = (noT,(k:Int),26):=by
 rw [<- h.1,Y2s h1];have e:(dat s1).isEmpty = false:=by
  rw [<- Bool.not_eq_true,List.isEmpty_iff];intro e;exact h0 (by rw [toList_nil_iff_emptyBytes]; exact Q8p e)
 show (if (dat s1).isEmpty = true then _ else _) = _
 rw [e];rfl
theorem Z4y {s s1:ByteArray} {k:Nat} {t1:Tree} {x r:List UInt8} (h:Z7q s s1 k t1) (e:dat s1 = x ++ 10 :: r) (hx:(10:UInt8) ∉ x) :
    (Q0z t1 x = none -> Q4x noT 0 (parts 10 (dat s)) = (noT,(k:Int),26)) /\ ∀ t',Q0z t1 x = some t' -> Z7q s ⟨r.toArray⟩ (k + 1) t':=by
 obtain ⟨h1,h2,h3⟩:=h;obtain ⟨y,r2,hp⟩:=Q5b 10 r;rw [e,Y0m hx,hp] at h1;have hsz:s1.size = x.length + (r.length + 1):=by
  have:(dat s1).length = s1.size:=Array.length_toList;rw [<- this,e];simp
 constructor
 . intro hn
   rw [<- h1];show (match Q0z t1 x with | none=>_ | some t'=>_) = _
   rw [hn]
 . intro t' hs
   refine ⟨?_,?_,?_⟩
   . rw [<- h1]
     show Q4x t' (k + 1) (parts 10 r) = (match Q0z t1 x with | none=>_ | some t'=>_)
     rw [hs,hp]
   . have:(⟨r.toArray⟩:ByteArray).size = r.length:=by show r.toArray.size = _; simp
     omega
   . obtain ⟨form,name,n,ns,hr⟩:∃ form name n ns,Q2e t1 form name n ns = some t':=by
      unfold Q0z X4j at hs
      split at hs
      . split at hs
        . cases hs
        . split at hs
          . exact ⟨_,_,_,_,hs⟩
          . cases hs
      . cases hs
     have:=Y0l hr;omega
theorem X7t (w:World) (s:ByteArray) (m:Int) (hm:w.cell? ⟨0,0,none⟩ = some (.int .i64 m)) (hs:s.size <= 100000) :
    Calls Tryz.prog 26 #[.string s] w fun e w'=>∃ x,e = .returned (.tuple #[x,.int .i64 (Q3s s).2.1,.int .i64 (Q3s s).2.2]) /\ IsTree w' x (Q3s s).1 /\ Ext w w':=by
 by_cases hlong:4096 < s.size
 . have hl:(4096:Int) < (s.size:Int):=by omega
   have HE:Hid (Q3s s = (noT,0,27)):=Lib.hid (by unfold Q3s; rw [if_pos hlong])
   clear hlong;go_enter Tryz.func26,Tryz.ntmps26;go_wp2_with (refine Q0c rfl _ _ 33 rfl Tryz.Q0v rfl rfl (Blk.made _ _ _) rfl rfl ?_ ?_; (focus (intro u hu; simp only [List.mem_cons,List.not_mem_nil,or_false] at hu; rcases hu with rfl | rfl | rfl <;> rfl)); intro w8 hb8 hl8 ho8)
   refine bodyPost_ret (Q0t Tryz.results26 rfl hb8 Tryz.Q2n Tryz.Q0v rfl rfl) rfl ?_;refine ⟨_,by rw [HE.out]; rfl,by rw [HE.out]; exact Q2v _,Below.trans (Ext.box w _) (hl8 _ (Nat.le_refl _))⟩
 . have hl:¬ (4096:Int) < (s.size:Int):=by omega
   have HE:Hid (Q3s s = Q4x noT 0 (parts 10 (dat s))):=Lib.hid (by unfold Q3s; rw [if_neg hlong]; rfl)
   have hm0:=World.block_lt_of_cell? w _ hm;have HM:=Lib.hid hm;clear hm;go_enter Tryz.func26,Tryz.ntmps26;go_wp2_with fail;change Code.wp _ _ _ _ ((w.alloc (.cells #[.slice none 0 0,.slice none 0 0,.slice none 0 0] 33)).alloc (.cells #[.slice none 0 0,.slice none 0 0,.slice none 0 0] 33));obtain ⟨W,hWW,k0,k1,HXW,eW⟩:=Q5l w 33 #[.slice none 0 0,.slice none 0 0,.slice none 0 0] 33 #[.slice none 0 0,.slice none 0 0,.slice none 0 0];rw [hWW];clear hWW;obtain ⟨O,hO⟩:∃ O,w.heap.size + 1 = O:=⟨_,rfl⟩;rw [hO] at k1 eW ⊢;have K0:=Lib.hid k0;have HP0:Hid (Z5e Z1v W O O noT):=Lib.hid ⟨_,_,_,_,_,X0y.start k1⟩;have hm0':0 < w.heap.size:=hm0;clear k0 k1 hm0;go_wp2
   go_loopw [0,6] (fun sv nv wr=>∃ (s1:ByteArray) (k:Nat) (t1:Tree),sv = .string s1 /\ nv = .int .i64 k /\ Z5e Z1v wr O O t1 /\ Below O W wr /\ Z7q s s1 k t1) (fun sv _ _=>J0h sv)
   case atStart=>exact ⟨s,0,noT,rfl,rfl,HP0.out,Below.refl _ _,Z1n s⟩
   case round =>
    obtain ⟨s1,k,t1,rfl,rfl,hpe,hbel,hpr⟩:=hrel;have hks:s1.size + k <= s.size:=hpr.2.1;have htk:=hpr.2.2;have HPE:=Lib.hid hpe;have HPR:=Lib.hid hpr;have HB:=Lib.hid hbel;have HMR:Hid (wr.cell? ⟨0,0,none⟩ = some (.int .i64 m)):=Lib.hid ((Below.cell (p:=⟨0,0,none⟩) hbel (by show 0 < O; omega)).trans (HXW.out.cell HM.out))
    have HR:Hid (Blk wr w.heap.size 33 #[.slice none 0 0,.slice none 0 0,.slice none 0 0]):=Lib.hid (K0.out.below hbel (by omega))
    have HXR:Hid (Ext w wr):=Lib.hid (Below.trans HXW.out (Below.mono hbel (by omega)))
    have hOr:O <= wr.heap.size:=by have:=hbel.size; omega
    clear hpe hpr hbel
    by_cases hz:s1.toList = []
    . have HZ:=Lib.hid (HE.out.trans (Z7g HPR.out hz))
      have hzE:s1.toList.isEmpty = true:=by rw [hz]; rfl
      obtain ⟨vb,vc,vg,LC,LG,hpt⟩:=HPE.out;have HT:=Lib.hid (hpt.tree (by omega))
      have HBO:=Lib.hid hpt.blk;obtain ⟨Ab,cb,rfl,_⟩:=hpt.bas.shape;obtain ⟨Ac,cc,hvc,_⟩:=hpt.cau.shape;obtain ⟨Ag,cg,hvg,_⟩:=hpt.gat.shape;subst hvc hvg;have HTK:Hid (∀ w',Keep 33 wr w' -> Q5t w' (.slice Ab t1.basics.length cb) (.slice Ac LC.length cc) (.slice Ag LG.length cg) t1):=Lib.hid fun w' hk=>hpt.Z9s Z1v.ok (by omega) hk
      clear hpt hz;go_wp2_with (refine Q0i rfl _ 33 rfl Tryz.Q2n Tryz.Q0v rfl HBO.out rfl ?_);refine (Q1y wr _ t1 ⟨_,_,_,rfl,HT.out⟩).mono ?_;rintro e w2 ⟨rfl,hx2⟩;have HB2:=Lib.hid (HBO.out.ext hx2);have HKX:Hid (Keep 33 wr w2):=Lib.hid (Keep.ext hx2);have HR2:=Lib.hid (HR.out.ext hx2);have HX2:=Lib.hid (HXR.out.trans hx2);clear hx2
      by_cases he:t1.err = 0
      . have hne:(t1.err != 0) = false:=by simp [he]
        have HF:Hid (Q3s s = (t1,0,0)):=Lib.hid (by rw [HZ.out,if_pos he])
        obtain ⟨E,hE⟩:∃ E,t1.err = E:=⟨_,rfl⟩;rw [hE] at hne ⊢;clear he hE;go_wp2_with (first | (refine Q0i rfl _ 33 rfl Tryz.Q2n Tryz.Q0v rfl HB2.out rfl ?_) | (refine Q0c rfl _ _ 33 rfl Tryz.Q0v rfl rfl HR2.out rfl rfl ?_ ?_; (focus (intro u hu; simp only [List.mem_cons,List.not_mem_nil,or_false] at hu; rcases hu with rfl | rfl | rfl <;> rfl)); intro w8 hb8 hl8 ho8))
        refine bodyPost_ret (Q0t Tryz.results26 rfl hb8 Tryz.Q2n Tryz.Q0v rfl rfl) rfl ?_;have hkp:=Keep.store HR2.out ho8;exact ⟨_,by rw [HF.out]; rfl,by rw [HF.out]; exact ⟨_,_,_,rfl,HTK.out _ (HKX.out.trans hkp)⟩,Below.trans HX2.out (hl8 _ (Nat.le_refl _))⟩
      . have hne:(t1.err != 0) = true:=by simp [he]
        have HF:Hid (Q3s s = (noT,(k:Int),t1.err)):=Lib.hid (by rw [HZ.out,if_neg he])
        obtain ⟨E,hE⟩:∃ E,t1.err = E:=⟨_,rfl⟩;rw [hE] at hne HF ⊢;clear he hE;go_wp2_with (refine Q0c rfl _ _ 33 rfl Tryz.Q0v rfl rfl HR2.out rfl rfl ?_ ?_; (focus (intro u hu; simp only [List.mem_cons,List.not_mem_nil,or_false] at hu; rcases hu with rfl | rfl | rfl <;> rfl)); intro w8 hb8 hl8 ho8)
        refine bodyPost_ret (Q0t Tryz.results26 rfl hb8 Tryz.Q2n Tryz.Q0v rfl rfl) rfl ?_;exact ⟨_,by rw [HF.out]; rfl,by rw [HF.out]; exact Q2v _,Below.trans HX2.out (hl8 _ (Nat.le_refl _))⟩
    . by_cases h10:(10:UInt8) ∈ dat s1
      . obtain ⟨x,r,hxr,hnx⟩:=List.eq_append_cons_of_mem h10
        have HL:=Lib.hid (Z4y HPR.out hxr hnx);have hzE:s1.toList.isEmpty = false:=by rw [List.isEmpty_eq_false_iff]; exact hz
        have hcut:Lib.cut s1.data.toList [10] = (x,r,true):=by
         show Lib.cut (dat s1) [10] = _;rw [hxr]; exact Z9a hnx
        have hxs:(⟨x.toArray⟩:ByteArray).size <= 4096:=by
         have h1:(dat s1).length = s1.size:=Array.length_toList;rw [hxr] at h1;have h2:(⟨x.toArray⟩:ByteArray).size = x.length:=by show x.toArray.size = _; simp
         simp at h1;omega
        have HCUT:Hid (∀ w',w'.cell? ⟨0,0,none⟩ = some (.int .i64 m) -> Calls Tryz.prog 83 #[.string s1,.string ⟨#[10]⟩] w' fun e w''=>e = .returned (.tuple #[.string ⟨x.toArray⟩,.string ⟨r.toArray⟩,.bool true]) /\ Ext w' w''):=by
         refine Lib.hid fun w' h=>?_;refine (Tryz.strings_Cut s1 ⟨#[10]⟩ m w' (by omega) h).mono ?_
         rintro e w'' ⟨rfl,n,rfl⟩;have e2:Lib.cut s1.data.toList (⟨#[10]⟩:ByteArray).data.toList = (x,r,true):=hcut;rw [e2];exact ⟨rfl,(Ext.refl _).drewN n⟩
        have HRS:Hid ((⟨r.toArray⟩:ByteArray).size < s1.size):=Lib.hid (by
         have h1:(dat s1).length = s1.size:=Array.length_toList;rw [hxr] at h1;have h2:(⟨r.toArray⟩:ByteArray).size = r.length:=by show r.toArray.size = _; simp
         simp at h1;omega)
        clear hcut hxr h10;go_wp2_with fail;refine (HCUT.out _ HMR.out).mono ?_;rintro e w2 ⟨rfl,hx2⟩;obtain ⟨vb,vc,vg,LC,LG,hpt⟩:=HPE.out;have HP2:Hid (Z5e Z1v w2 O O t1):=Lib.hid ⟨vb,vc,vg,LC,LG,hpt.ext hx2⟩;have HM2:=Lib.hid (hx2.cell HMR.out);have HB2:=Lib.hid (HB.out.trans (hx2.below hOr));have HR2:=Lib.hid (HR.out.ext hx2);have hO2:O <= w2.heap.size:=Nat.le_trans hOr hx2.size;clear hpt hx2;go_wp2_with fail;refine (Z4l w2 O O t1 ⟨x.toArray⟩ m hxs HP2.out hO2 (Nat.le_refl _) HM2.out (by omega)).mono ?_
        rintro e w3 ⟨hb3,hnone,hsome⟩;have HB3:=Lib.hid (HB2.out.trans hb3);have HR3:=Lib.hid (HR2.out.below hb3 (by omega))
        rcases hrl:Q0z t1 (dat ⟨x.toArray⟩) with _ | t'
        . obtain rfl:=hnone hrl
          have HF:=Lib.hid (HE.out.trans (HL.out.1 hrl));have HX3:Hid (Ext w w3):=Lib.hid (Below.trans HXW.out (Below.mono HB3.out (by omega)))
          clear hb3 hnone hsome hrl;go_wp2_with (refine Q0c rfl _ _ 33 rfl Tryz.Q0v rfl rfl HR3.out rfl rfl ?_ ?_; (focus (intro u hu; simp only [List.mem_cons,List.not_mem_nil,or_false] at hu; rcases hu with rfl | rfl | rfl <;> rfl)); intro w8 hb8 hl8 ho8)
          refine bodyPost_ret (Q0t Tryz.results26 rfl hb8 Tryz.Q2n Tryz.Q0v rfl rfl) rfl ?_;exact ⟨_,by rw [HF.out]; rfl,by rw [HF.out]; exact Q2v _,Below.trans HX3.out (hl8 _ (Nat.le_refl _))⟩
        . obtain ⟨rfl,hp3⟩:=hsome t' hrl
          have HF:=Lib.hid (HL.out.2 t' hrl);have HP3:=Lib.hid hp3;clear hb3 hnone hsome hrl hp3;go_wp2;go_roundw
          case rel=>exact ⟨_,k + 1,t',rfl,by go_num,HP3.out,HB3.out,HF.out⟩
          case measure=>exact HRS.out
      . have HF:=Lib.hid (HE.out.trans (Z6b HPR.out hz h10))
        have hzE:s1.toList.isEmpty = false:=by rw [List.isEmpty_eq_false_iff]; exact hz
        have hcut:Lib.cut s1.data.toList [10] = (s1.data.toList,[],false):=Z8g h10;have HCUT:Hid (∀ w',w'.cell? ⟨0,0,none⟩ = some (.int .i64 m) -> Calls Tryz.prog 83 #[.string s1,.string ⟨#[10]⟩] w' fun e w''=>e = .returned (.tuple #[.string s1,.string ⟨#[]⟩,.bool false]) /\ Ext w' w''):=by
         refine Lib.hid fun w' h=>?_;refine (Tryz.strings_Cut s1 ⟨#[10]⟩ m w' (by omega) h).mono ?_
         rintro e w'' ⟨rfl,n,rfl⟩;have e2:Lib.cut s1.data.toList (⟨#[10]⟩:ByteArray).data.toList = (s1.data.toList,[],false):=hcut;rw [e2];exact ⟨rfl,(Ext.refl _).drewN n⟩
        clear hcut h10;go_wp2_with fail;refine (HCUT.out _ HMR.out).mono ?_;rintro e w2 ⟨rfl,hx2⟩;have HR2:=Lib.hid (HR.out.ext hx2);have HX2:=Lib.hid (HXR.out.trans hx2);clear hx2;go_wp2_with (refine Q0c rfl _ _ 33 rfl Tryz.Q0v rfl rfl HR2.out rfl rfl ?_ ?_; (focus (intro u hu; simp only [List.mem_cons,List.not_mem_nil,or_false] at hu; rcases hu with rfl | rfl | rfl <;> rfl)); intro w8 hb8 hl8 ho8)
        refine bodyPost_ret (Q0t Tryz.results26 rfl hb8 Tryz.Q2n Tryz.Q0v rfl rfl) rfl ?_;exact ⟨_,by rw [HF.out]; rfl,by rw [HF.out]; exact Q2v _,Below.trans HX2.out (hl8 _ (Nat.le_refl _))⟩
end Go.Proofs
