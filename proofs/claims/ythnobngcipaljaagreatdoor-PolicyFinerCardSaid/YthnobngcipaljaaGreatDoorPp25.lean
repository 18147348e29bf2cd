/- Contract: split. Contracts: split, plans. Contracts: Kept, Closings, Delay, Weight (of the program). Contracts: Histories, Alone (of the program). -/
import Derived.Test.YthnobngcipaljaaGreatDoorPp24
import Derived.Test.YthnobngcipaljaaGreatDoorPp15
import Derived.Test.YthnobngcipaljaaGreatDoorPp22
import Derived.Test.YthnobngcipaljaaGreatDoorPp16
set_option maxRecDepth 1000000
set_option maxHeartbeats 64000000
set_option linter.unusedVariables false
set_option linter.unusedSimpArgs false
set_option linter.constructorNameAsVariable false
open Go.Lib (hid)
namespace Go.Tw
open Go.RowKit Go.Flow
theorem Z5s {s:Q0b} {t c:Nat} {l:List Runner} {j:Nat} {r:Runner} (h:l[j]?=some r):Q6k s t c (l.take (j + 1))=Q6k s t c (l.take j) ++ if ix (Q0c s.members r.member) t=(c:Int) then [r] else []:=by
 obtain ⟨hk,rfl⟩:=List.getElem?_eq_some_iff.1 h;unfold Q6k;rw [List.take_succ_eq_append_getElem hk,List.filter_append]
 congr 1
 by_cases he:ix (Q0c s.members l[j].member) t=(c:Int)
 . rw [if_pos he]; simp [he]
 . rw [if_neg he]; simp [he]
theorem Y6b {s:Q0b} {t c:Nat} {l:List Runner}:(Q6k s t c l).length <= l.length:=List.length_filter_le _ _
end Go.Tw
namespace Go.Proofs
open Go.RowKit Go.Tw Go.Flow
attribute [local go_sem] Oper.semAt_some
theorem Y9m (s:Q0b) (hV:Q1b s) (hF:s.hist.length <= 9) (k:Nat) (hk1:k + 1 <= s.ships.length) (hSub:Y3c s k):Y3c s (k + 1):=by
 intro w B u v l hu hv hkn hlv hsh hl;have HSUB:=hid hSub;obtain ⟨aS,bS,rfl,h2⟩:=hu;obtain ⟨A,capa,rfl,-,-,-⟩:=h2.ships.opened;obtain ⟨M,capb,rfl,-,-,-⟩:=h2.members.opened;have h6:=hV.tides;obtain ⟨i0,hi,hz0,hz1,hz2⟩:=info_parts Tryz.Z3i;have HH2:=hid h2;have HKN:=hid hkn;have HV:=hid hV;have HLV:=hid hlv;have HSHR:=hid hsh;have HBC:=hid (Y0q hV hk1 (Q6b hV k (by omega)) hkn hsh)
 have HBD:=hid (fun (c:Nat) (hn:Q6k s (s.ships.length - (k + 1)) c l ≠ [])=>X5n hV hk1 (Q6b hV k (by omega)) (Q6r hkn) hn (by
  have:=Q8g (c:=c) hV.toFine hkn (by omega) hsh
  have e1:s.ships.length - k=s.ships.length - (k + 1) + 1:=by omega
  rw [e1]; exact this))
 have HDEC:=hid (fun (W:World) (v:Value) (c:Nat) (B:Nat) (hW:Ext w W) (hv:Q0z W B 233 3 encR v (Q6k s (s.ships.length - (k + 1)) c l)) (hn:Q6k s (s.ships.length - (k + 1)) c l ≠ []) =>
  Y9a W B _ v s k _ hSub ⟨_,_,rfl,h2.ext hW⟩ hv hV hk1 hF (Q6r hkn) (fun r hr=>hlv r (List.mem_filter.1 hr).1) (by
   have:=Q8g (c:=c) hV.toFine hkn (by omega) hsh
   have e1:s.ships.length - k=s.ships.length - (k + 1) + 1:=by omega
   rw [e1]; exact this) hn (Nat.le_trans Y6b hl))
 have HUN:Hid (∀ c,X2m s (s.ships.length - (k + 1)) (X2n s (s.ships.length - (k + 1)) c l) + X2m s (s.ships.length - (k + 1)) (Q6k s (s.ships.length - (k + 1)) c l) <= 9):=hid (fun c=>by
  rw [<- Y3w];exact Nat.le_trans (X5i _ _) hF)
 have HCS:Hid (∀ c,Q6k s (s.ships.length - (k + 1)) c l=[] -> Q1x s (s.ships.length - (k + 1)) (Q1w s k) l (c + 1)=Q1x s (s.ships.length - (k + 1)) (Q1w s k) l c):=hid (fun c h=>by rw [Q1x,if_pos h])
 have HCT:Hid (∀ c,Q6k s (s.ships.length - (k + 1)) c l ≠ [] -> Q1x s (s.ships.length - (k + 1)) (Q1w s k) l (c + 1)=together (Q1x s (s.ships.length - (k + 1)) (Q1w s k) l c) (Q3l s (s.ships.length - (k + 1)) (Q1w s k) (Q6k s (s.ships.length - (k + 1)) c l))):=hid (fun c h=>by rw [Q1x,if_neg h])
 have HFIN:Hid (Q1w s (k + 1) l=Q1x s (s.ships.length - (k + 1)) (Q1w s k) l 10):=hid rfl;have HC0:Hid (Q1x s (s.ships.length - (k + 1)) (Q1w s k) l 0=[⟨0,0,0,[]⟩]):=hid rfl;have HRB:Hid (∀ l',Known s l' -> l'.length <= 8 -> 0 <= Q4v s l' /\ Q4v s l' <= 8000):=hid (fun l' h h8=>by have:=X9f hV h; omega)
 have HKL:Hid (∀ c,Known s (X2n s (s.ships.length - (k + 1)) c l) /\ (X2n s (s.ships.length - (k + 1)) c l).length <= 8):=hid (fun c=>⟨Z2a hkn,Nat.le_trans (List.length_filter_le _ _) hl⟩);have HKO:Hid (∀ c,Known s (Q6k s (s.ships.length - (k + 1)) c l) /\ (Q6k s (s.ships.length - (k + 1)) c l).length <= 8):=hid (fun c=>⟨Q6r hkn,Nat.le_trans Y6b hl⟩);rw [HFIN.out];obtain ⟨Al,cl,hAl,HCELL⟩:=hv.reads Q6v;subst hAl;have hts:s.ships.length - (k + 1) < s.ships.length:=by omega
 have hk6:k + 1 <= 6:=by omega
 obtain ⟨t,ht⟩:∃ z,s.ships.length - (k + 1)=z:=⟨_,rfl⟩;rw [ht] at HBC HBD HDEC HUN HCS HCT HC0 HKL HKO hts ⊢;have HTNE:Hid (¬ (t:Int)=s.ships.length):=hid (by omega)
 obtain ⟨sub,hsub⟩:∃ z,Q1w s k=z:=⟨_,rfl⟩;rw [hsub] at HBC HBD HDEC HCS HCT HC0 ⊢;clear h2 hv hkn hlv hsh hV HFIN hSub hF hsub ht;go_enter Tryz.func157,Tryz.ntmps157;go_wp2_with fail;change Code.wp _ _ _ _ ((w.alloc (.cells #[.int .i64 s.limit,.slice A s.ships.length capa,.slice M s.members.length capb] 34)).alloc (.cells #[.int .i64 0,.int .i64 0,.int .i64 0,.slice none 0 0] 159));obtain ⟨W,hWW,k0,k1,HXW,eW⟩:=Q4e w 34 #[.int .i64 s.limit,.slice A s.ships.length capa,.slice M s.members.length capb] 159 #[.int .i64 0,.int .i64 0,.int .i64 0,.slice none 0 0];rw [hWW];clear hWW;have K0:=hid k0;have HOP:=hid (Y7r k1 (B:=w.heap.size) (by omega))
 obtain ⟨gs,hgs⟩:∃ z,w.heap.size=z:=⟨_,rfl⟩;have HGS:=hid hgs;rw [hgs] at K0 HOP eW ⊢;have hbq:((t:Int) == (s.ships.length:Int))=false:=by simpa using HTNE.out
 rw [hbq];clear k0 k1 hgs hbq
 go_loopw [10,43] (fun o i wr=>∃ (c:Nat) (qs:List PV),c <= 10 /\ i=.int .i64 c /\ Q0z wr w.heap.size 159 4 Q2f o qs /\ Q0j wr qs /\ qs.map (·.1)=Q1x s t sub l c /\ Ext W wr) (fun _ i _=>10 - (intOf i).toNat)
 case atStart=>exact ⟨0,_,Nat.zero_le _,rfl,by rw [HGS.out]; exact HOP.out,X7n _ _,by rw [HC0.out]; rfl,Ext.refl _⟩
 case round =>
  clear HOP HC0;obtain ⟨c,qs,hc,rfl,hown,hcr,hun,hx⟩:=hrel;have HUN2:=hid hun;have HX:=hid hx;have HOW:=hid hown;have HCR:=hid hcr
  by_cases hlt:c < 10
  . have hcI:(c:Int) < 10:=by omega
    obtain ⟨w0,rfl⟩:∃ X,X=wr:=⟨_,rfl⟩;clear hown hcr hun hx
    go_light
    go_wp2
    go_loopw [12,48] (fun v j wq=>∃ (n:Nat),n <= l.length /\ j=.int .i64 n /\ Q0z wq w0.heap.size 233 3 encR v (Q6k s t c (l.take n)) /\ Ext w0 wq) (fun _ j _=>l.length - (intOf j).toNat)
    case atStart=>exact ⟨0,Nat.zero_le _,rfl,Q0z.nil _ _ _ _ _,Ext.refl _⟩
    case round =>
     obtain ⟨n,hn,rfl,hown,hx⟩:=hrel;have HOR:=hid hown;have HX2:=hid hx
     by_cases hnl:n < l.length
     . obtain ⟨gl,rfl,hcell⟩:=HCELL.out n hnl
       have hxw:=HXW.out.trans (HX.out.trans hx);have e0:=hxw.cell (hcell 0 (by omega))
       have e1:=hxw.cell (hcell 1 (by omega))
       have e2:=hxw.cell (hcell 2 (by omega))
       have hmr:=HKN.out _ (List.getElem_mem hnl);have hsm:=Z5s (s:=s) (t:=t) (c:=c) (List.getElem?_eq_getElem hnl);obtain ⟨r,hr⟩:∃ z,l[n]=z:=⟨_,rfl⟩;rw [hr] at e0 e1 e2 hmr hsm;obtain ⟨i,hri⟩:∃ z,r.member=z:=⟨_,rfl⟩;obtain ⟨r2,hr2⟩:∃ z,r.level=z:=⟨_,rfl⟩;obtain ⟨r3,hr3⟩:∃ z,r.dry=z:=⟨_,rfl⟩;have HPR:=hid (show r.member=i /\ r.level=r2 /\ r.dry=r3 from ⟨hri,hr2,hr3⟩)
       rw [hri] at hmr hsm;replace e0:wr.cell? ⟨gl,n * 3,none⟩=some (.int .i64 (i:Int)):=by rw [<- hri]; exact e0
       replace e1:wr.cell? ⟨gl,n * 3 + 1,none⟩=some (.int .i64 r2):=by rw [<- hr2]; exact e1
       replace e2:wr.cell? ⟨gl,n * 3 + 2,none⟩=some (.bool r3):=by rw [<- hr3]; exact e2
       obtain ⟨bm,off,capx,capy,capz,X,Y,Z,hm⟩:=Q2l HH2.out.members hmr;obtain rfl:=hm.addr;have hcl:=(HV.out.shaped i hmr).1;have hclt:t < (Q0c s.members i).length:=by omega
       obtain ⟨X',capx',hXe,-,-,hcX⟩:=hm.x.opened;injection hXe with hXe hce hcpe;subst hXe;subst hcpe;obtain ⟨bc,oc,hXe,hxc⟩:=hcX t hclt;subst hXe;have hbox:=Ext.box wr (.cells #[.int .i64 (i:Int),.int .i64 r2,.bool r3] 233);have K3:=Blk.made wr 233 #[.int .i64 (i:Int),.int .i64 r2,.bool r3];have d0:=(K3).cell 0;have d1:=(K3).cell 1;have d2:=(K3).cell 2;simp only [Go.Tw.gA,Go.Tw.gB,Go.Tw.gC] at d0 d1 d2;have hme:=hbox.cell (hxw.cell hm.e2);have hmc:=hbox.cell (hxw.cell hxc);have c2:=(K0.out.ext (HX.out.trans (hx.trans hbox))).cell 2;simp only [Go.Tw.gA,Go.Tw.gB,Go.Tw.gC] at c2;have hiI:(i:Int) < s.members.length:=by omega
       have hnI:(n:Int) < l.length:=by omega
       have HX9:=hid (hx.trans hbox);have HK3:=hid K3;have HOB:=hid (Q0z.below hown hbox);have HLW:Hid ((Q6k s t c (l.take n)).length + 1 <= 100000):=hid (by
        have h1:(Q6k s t c (l.take n)).length <= (l.take n).length:=Y6b;rw [List.length_take] at h1;omega)
       obtain ⟨lc,hlce⟩:∃ x,(Q0c s.members i).length=x:=⟨_,rfl⟩;rw [hlce] at hme hclt;have htc:(t:Int) < lc:=by omega
       obtain ⟨cv,hcv⟩:∃ x,ix (Q0c s.members i) t=x:=⟨_,rfl⟩;rw [hcv] at hmc hsm;obtain ⟨zs,hzs⟩:∃ x,Q6k s t c (l.take n)=x:=⟨_,rfl⟩;rw [hzs] at hsm HOB HLW;have HSM:=hid hsm;obtain ⟨Ao,co,hos,-⟩:=HOB.out.shape;subst hos;clear hcell hxw hmr hsm hr hri hr2 hr3 hm hcl hcX hxc hbox K3 hx hown hlce hcv hzs HOR
       go_light
       by_cases he:cv=(c:Int)
       . rw [if_pos he] at HSM
         subst he;have HNWS:Hid (∀ (W:World) gn,Blk W gn 233 #[.int .i64 (i:Int),.int .i64 r2,.bool r3] -> ∀ j u,(encR r)[j]?=some u -> W.cell? ((⟨gn,0,none⟩:Addr).add j)=some u):=hid (fun W gn hb=>by unfold encR; rw [HPR.out.1,HPR.out.2.1,HPR.out.2.2]; exact Q5g hb)
         have HSW:=hid HX9.out.size;obtain ⟨wd,hwd⟩:∃ X,wr.alloc (.cells #[.int .i64 (i:Int),.int .i64 r2,.bool r3] 233)=X:=⟨_,rfl⟩;rw [hwd] at HX9 HOB HSW HK3 d0 d1 d2 hme hmc c2;go_wp2_with (refine Q1z (o:=⟨some 67,_,_,_,_,_⟩) rfl ?_; (try rw [hwd]); refine Q2i (.tmp 64) (.tmp 66) 231 rfl w0.heap.size 233 i0 (.agg #[.int .i64 0,.int .i64 0,.bool false]) 3 24 Tryz.underlying231 hi hz0 hz1 hz2 rfl (by decide) encR Q6v _ zs r rfl (HOB.out.below (Ext.box _ _)) ⟨wd.heap.size,0,none⟩ 1 rfl (HNWS.out _ _ (Blk.made _ _ _)) (Y0b r) HLW.out (by decide) (by have h1:=(Ext.box wd (.cells #[.int .i64 (i:Int),.int .i64 r2,.bool r3] 233)).size; have h2:=HSW.out; omega) ?_; intro v' w9 hown' hgrow)
         have hg:(wd.alloc (.cells #[.int .i64 (i:Int),.int .i64 r2,.bool r3] 233)).grownBy w9 (Value.slice Ao zs.length co).ownBlock:=hgrow;have hxx:=Ext.box wd (.cells #[.int .i64 (i:Int),.int .i64 r2,.bool r3] 233);have hO3:=HOB.out.below hxx;have hX':Ext w0 w9:=Below.grown (HX9.out.trans hxx) hg (by have:=hxx.size; have:=HSW.out; omega) (fun b hb=>(hO3.Q8q b hb).1)
         go_roundw
         case rel=>exact ⟨n + 1,by omega,by go_num,by rw [HSM.out]; exact hown',hX'⟩
         case measure=>simp [intOf]; omega
       . rw [if_neg he,List.append_nil] at HSM
         go_wp2;go_roundw
         case rel=>exact ⟨n + 1,by omega,by go_num,by rw [HSM.out]; exact HOB.out,HX9.out⟩
         case measure=>simp [intOf]; omega
     . have hne:n=l.length:=by omega
       subst hne;rw [List.take_length] at HOR;clear hown hx;obtain ⟨ow,how⟩:∃ z,Q6k s t c l=z:=⟨_,rfl⟩;obtain ⟨Ao,co,hos,-⟩:=HOR.out.shape;subst hos;have HX3:=hid (HX.out.trans HX2.out)
       by_cases hE:ow=[]
       . have HC1:Hid (Q1x s t sub l (c + 1)=Q1x s t sub l c):=hid (HCS.out c (by rw [how]; exact hE))
         have h0:(Q6k s t c l).length=0:=by rw [how,hE]; rfl
         rw [h0];clear how hE;go_wp2;go_roundw
         case rel=>exact ⟨c + 1,qs,by omega,by go_num,HOW.out.below HX2.out,HCR.out.ext HX2.out,by rw [HC1.out]; exact HUN2.out,HX3.out⟩
         case measure=>simp [intOf]; omega
       . have hne:Q6k s t c l ≠ []:=by rw [how]; exact hE
         have HC1:=hid (HCT.out c hne);have HD:=hid (fun (W:World) (hW:Ext w W) hv=>HDEC.out W (.slice Ao (Q6k s t c l).length co) c w0.heap.size hW hv hne);have HB:=hid (HBD.out c hne);have hpos:0 < (Q6k s t c l).length:=List.length_pos_iff.2 hne;have hposI:(0:Int) < (Q6k s t c l).length:=by omega
         have HTO:Hid (∀ q ∈ qs,Y8m q.1):=hid (fun q hq=>by
          have hm:q.1 ∈ Q1x s t sub l c:=by rw [<- HUN2.out]; exact List.mem_map_of_mem hq
          have hb:=HUN.out c;exact X9y ((HBC.out c).2 _ hm) hk6 (HRB.out _ (HKL.out c).1 (HKL.out c).2) (by omega))
         have HTD:Hid (∀ x ∈ Q3l s t sub (Q6k s t c l),Y8m x):=hid (fun x hx=>by
          have hb:=HUN.out c;exact X9y (HB.out.2.2 x hx) hk6 (HRB.out _ (HKO.out c).1 (HKO.out c).2) (by omega))
         have HLL:Hid (qs.length * (Q3l s t sub (Q6k s t c l)).length <= 512 /\ qs.length <= 512 /\ (Q3l s t sub (Q6k s t c l)).length <= 512):=hid (by
          have hb:=HUN.out c;have h1:=(HBC.out c).1;rw [<- HUN2.out,List.length_map] at h1;have h2:=HB.out.2.1;have h3:qs.length * (Q3l s t sub (Q6k s t c l)).length <= 2 ^ 9:=Nat.le_trans (Nat.mul_le_mul h1 h2) (by rw [<- Nat.pow_add]; exact Nat.pow_le_pow_right (by omega) hb)
          have h4:qs.length <= 2 ^ 9:=Nat.le_trans h1 (Nat.pow_le_pow_right (by omega) (by omega))
          have h5:(Q3l s t sub (Q6k s t c l)).length <= 2 ^ 9:=Nat.le_trans h2 (Nat.pow_le_pow_right (by omega) (by omega))
          omega)
         obtain ⟨dc,hdc⟩:∃ z,Q3l s t sub (Q6k s t c l)=z:=⟨_,rfl⟩;rw [hdc] at HTD HLL HC1 HD;obtain ⟨ol,hol⟩:∃ z,(Q6k s t c l).length=z:=⟨_,rfl⟩;rw [hol] at HOR HD hposI ⊢;have k0:=K0.out.ext HX3.out;have c0:=(k0).cell 0;have c1:=(k0).cell 1;have c2:=(k0).cell 2;simp only [Go.Tw.gA,Go.Tw.gB,Go.Tw.gC] at c0 c1 c2;have HXW3:=hid (HXW.out.trans HX3.out);have hOr:=HOR.out;have HDC:=hid (HD.out _ HXW3.out hOr);clear how hE hne hpos hdc hol k0 HB HBC HBD HDEC HUN HCS HCT hOr;go_wp2_with (go_at_call 185; refine HDC.out.mono ?_; rintro e w5 ⟨x5,qs5,rfl,h1,h2,h3,h4⟩; refine halted ?_);have H4:=hid h4;have HTG:=hid (Y1z w5 w.heap.size _ _ x5 qs qs5 (HOW.out.below (HX2.out.trans h4)) h1 (HCR.out.ext (HX2.out.trans h4)) h2 HTO.out (fun q hq=>HTD.out _ (by rw [<- h3]; exact List.mem_map_of_mem hq)) (by have:=HLL.out.1; rw [<- h3,List.length_map] at this; omega) (by have:=HLL.out.2.1; omega) (by have:=HLL.out.2.2; rw [<- h3,List.length_map] at this; omega))
         have HM5:=hid h3;clear h1 h2 h3 h4;unfold Q1i;go_wp2_with (go_at_call 184; refine HTG.out.mono ?_; rintro e w6 ⟨x6,qs6,rfl,h1,h2,h3,h4⟩; refine halted ?_);have HX6:Hid (Ext wr w6):=hid (H4.out.trans h4);have HO6:=hid h1;have HC6:=hid h2;have HM6:=hid h3;clear h1 h2 h3 h4;unfold Q1i;go_wp2;go_roundw
         case rel=>exact ⟨c + 1,qs6,by omega,by go_num,Q0z.weaken HO6.out (HXW3.out.trans H4.out).size,HC6.out,by rw [HM6.out,HC1.out,HUN2.out,HM5.out],HX3.out.trans HX6.out⟩
         case measure=>simp [intOf]; omega
  . have hce:c=10:=by omega
    subst hce;clear hown hcr hun hx;go_wp2;go_ret;exact ⟨_,qs,rfl,HOW.out,HCR.out,HUN2.out,HXW.out.trans HX.out⟩
end Go.Proofs
namespace Go.Tw
open Go.RowKit Go.Flow
def X3g (n:Nat):List Runner:=(List.range n).map fun i=>⟨i,0,true⟩
theorem Y8t (n:Nat):X3g (n + 1)=X3g n ++ [⟨n,0,true⟩]:=by unfold X3g; rw [List.range_succ,List.map_append]; rfl
theorem Y2e (n:Nat):(X3g n).length=n:=by simp [X3g]
end Go.Tw
namespace Go.Proofs
open Go.RowKit Go.Tw Go.Flow
attribute [local go_sem] Oper.semAt_some
theorem Y3h (s:Q0b) (hV:Q1b s) (hF:s.hist.length <= 9):∀ k,k <= s.ships.length -> Y3c s k
 | 0,_=>Y8p s hV
 | k + 1,h=>Y9m s hV hF k h (Y3h s hV hF k (by omega))
theorem Y3y (w:World) (v:Value) (s:Q0b) (hv:Q0h w v s) (hV:Q1b s) (hF:s.hist.length <= 9) :
    Calls Tryz.prog 94 #[v] w fun e w'=>∃ x qs,e=.returned x /\ Q0z w' w.heap.size 159 4 Q2f x qs /\ Q0j w' qs /\ qs.map (·.1)=Q2j s /\ Ext w w':=by
 obtain ⟨aS,bS,rfl,h2⟩:=hv;obtain ⟨A,capa,rfl,-,-,-⟩:=h2.ships.opened;obtain ⟨M,capb,rfl,-,-,-⟩:=h2.members.opened;obtain ⟨i0,hi,hz0,hz1,hz2⟩:=info_parts Tryz.Z3i;have h8:=hV.some;have HSP:=hid (fun (W:World) (u:Value) (B:Nat) (hW:Ext w W) (hu:Q0z W B 233 3 encR u (X3g s.members.length))=>by
  have h:=Y3h s hV hF s.ships.length (Nat.le_refl _) W B _ u (X3g s.members.length) ⟨_,_,rfl,h2.ext hW⟩ hu Q6q (fun r hr=>by
   obtain ⟨i,_,rfl⟩:=List.mem_map.1 hr;show (0:Int) <= 0 /\ (0:Int) <= _;omega) Q8n (by rw [Y2e]; omega)
  rw [Nat.sub_self] at h;exact h)
 have HFIN:Hid (Q2j s=Q1w s s.ships.length (X3g s.members.length)):=hid rfl;rw [HFIN.out];obtain ⟨L,hL⟩:∃ z,s.members.length=z:=⟨_,rfl⟩;rw [hL] at HSP h8 ⊢;obtain ⟨P,hP⟩:∃ z,Q1w s s.ships.length (X3g L)=z:=⟨_,rfl⟩;rw [hP] at HSP ⊢;clear h2 hV hF HFIN hL hP;go_enter Tryz.func94,Tryz.ntmps94;go_wp2_with fail;change Code.wp _ _ _ _ (w.alloc (.cells #[.int .i64 s.limit,.slice A s.ships.length capa,.slice M L capb] 34));obtain ⟨W,hWW,k0,HXW,eW⟩:=Q1t w 34 #[.int .i64 s.limit,.slice A s.ships.length capa,.slice M L capb];rw [hWW];clear hWW;have K0:=hid k0;clear k0
 go_loopw [3,8] (fun o i wr=>∃ (k:Nat),k <= L /\ i=.int .i64 k /\ Q0z wr W.heap.size 233 3 encR o (X3g k) /\ Ext W wr) (fun _ i _=>L - (intOf i).toNat)
 case atStart=>exact ⟨0,Nat.zero_le _,rfl,Q0z.nil _ _ _ _ _,Ext.refl _⟩
 case round =>
  obtain ⟨k,hk,rfl,hown,hx⟩:=hrel;have HX:=hid hx;have HOW:=hid hown
  by_cases hlt:k < L
  . have hkI:(k:Int) < L:=by omega
    have HLW:Hid ((X3g k).length + 1 <= 100000):=hid (by rw [Y2e]; omega)
    have HST:=hid (Y8t k);obtain ⟨zs,hzs⟩:∃ z,X3g k=z:=⟨_,rfl⟩;rw [hzs] at HOW HLW HST;obtain ⟨Ao,co,hos,-⟩:=HOW.out.shape;subst hos;have HSW:=hid HX.out.size;clear hown hx hzs
    go_light
    go_wp2_with (refine Q1z (o:=⟨some 15,_,_,_,_,_⟩) rfl ?_; refine Q2i (.tmp 11) (.tmp 14) 231 rfl W.heap.size 233 i0 (.agg #[.int .i64 0,.int .i64 0,.bool false]) 3 24 Tryz.underlying231 hi hz0 hz1 hz2 rfl (by decide) encR Q6v _ zs (⟨k,0,true⟩:Runner) rfl (HOW.out.below (Ext.box _ _)) ⟨wr.heap.size,0,none⟩ 1 rfl (Q5g (xs:=encR ⟨k,0,true⟩) (Blk.made _ _ _)) (Y0b _) HLW.out (by decide) (by have h1:=(Ext.box wr (.cells #[.int .i64 (k:Int),.int .i64 0,.bool true] 233)).size; have h2:=HSW.out; omega) ?_; intro v' w9 hown' hgrow)
    have hxx:=Ext.box wr (.cells #[.int .i64 (k:Int),.int .i64 0,.bool true] 233);have hO3:=HOW.out.below hxx;have HO9:=hid hown';have HX9:Hid (Ext W w9):=hid (Below.grown (HX.out.trans hxx) hgrow (by have:=hxx.size; have:=HSW.out; omega) (fun b hb=>(hO3.Q8q b hb).1))
    clear hxx hO3 hown' hgrow;go_wp2;go_roundw
    case rel=>exact ⟨k + 1,by omega,by go_num,by rw [HST.out]; exact HO9.out,HX9.out⟩
    case measure=>simp [intOf]; omega
  . have hke:k=L:=by omega
    subst hke;have k0:=K0.out.ext hx;have c0:=(k0).cell 0;have c1:=(k0).cell 1;have c2:=(k0).cell 2;simp only [Go.Tw.gA,Go.Tw.gB,Go.Tw.gC] at c0 c1 c2;have HC:=hid (HSP.out wr _ W.heap.size (HXW.out.trans hx) hown);have HXX:=hid (HXW.out.trans hx);clear hown hx k0;go_wp2_with (go_at_call 157; refine HC.out.mono ?_; rintro e w5 ⟨x5,qs5,rfl,h1,h2,h3,h4⟩; refine halted ?_);have H1:=hid h1;have H2:=hid h2;have H3:=hid h3;have H4:=hid h4;clear h1 h2 h3 h4;unfold Q1i;go_wp2;go_ret;exact ⟨_,qs5,rfl,Q0z.weaken H1.out HXX.out.size,H2.out,H3.out,HXX.out.trans H4.out⟩
end Go.Proofs
namespace Go.Proofs
open Go.RowKit Go.Tw Go.Flow
attribute [local go_sem] Oper.semAt_some
theorem Q4o {s:Q0b} {p:List Rul} (h:Q1g s p=0):Q1b s /\ Q2d s.hist p=0:=by
 unfold Q1g at h
 by_cases he:s.err=0
 . rw [if_neg (fun hn=>hn he)] at h; exact ⟨Q1b.of he,h⟩
 . rw [if_pos he] at h; exact absurd h he
def Y8s (s:Q0b) (p:List Rul):List Int:=if Q1g s p=0 then Q3r s p else []
def X0l (s:Q0b) (p:List Rul):Int:=if Q1g s p=0 then Q4z s p else 0
def Y7p (s:Q0b) (p:List Rul):Int:=if Q1g s p=0 then X2t s p else 0
theorem Z3w (w:World):Q0d w (.slice none 0 0) []:=Go.Tw.Rows.nil _ _ _
theorem X7c (w:World) (x y:Value):(Instr.field 156 (.agg #[x,y]) 0).run Tryz.prog w=.ok x w:=by kernel_rfl
theorem X7a (w:World) (x y:Value):(Instr.field 156 (.agg #[x,y]) 1).run Tryz.prog w=.ok y w:=by kernel_rfl
attribute [local go_sem ↓] X7c X7a
theorem X6i (w:World) (v u:Value) (s:Q0b) (p:List Rul) (hv:Q0h w v s) (hu:Q0w w u p) (hs:Q3k s) (hp:p.length <= 1000) :
    Calls Tryz.prog 33 #[v,u] w fun e w'=>∃ x,e=.returned (.tuple #[x,.int .i64 (Q1g s p)]) /\ Q0d w' x (Y8s s p) /\ Ext w w':=by
 obtain ⟨a,b,rfl,h2⟩:=hv;obtain ⟨rv,rfl,hr⟩:=hu;obtain ⟨A,capa,rfl,-,-,-⟩:=h2.ships.opened;obtain ⟨B,capb,rfl,-,-,-⟩:=h2.members.opened;obtain ⟨R,capr,rfl,-,-,-⟩:=hr.opened;have H2:=hid h2;have HR:=hid hr;have HS:=hid hs;clear h2 hr hs;go_enter Tryz.func33,Tryz.ntmps33;go_wp2_with fail;change Calls _ _ _ ((w.alloc (.cells #[.int .i64 s.limit,.slice A s.ships.length capa,.slice B s.members.length capb] 34)).alloc (.cells #[.slice R p.length capr] 38)) _;obtain ⟨W,hWW,k0,k1,HXW,eW⟩:=Q4e w 34 #[.int .i64 s.limit,.slice A s.ships.length capa,.slice B s.members.length capb] 38 #[.slice R p.length capr];rw [hWW];clear hWW;have K0:=hid k0;have K1:=hid k1;clear k0 k1;refine (Q3t _ _ _ s p ⟨_,_,rfl,H2.out.ext HXW.out⟩ ⟨_,rfl,HR.out.ext HXW.out⟩ HS.out hp).mono ?_;rintro e w5 ⟨rfl,hx5⟩;have HX5:=hid (HXW.out.trans hx5);have HK0:=hid (K0.out.ext hx5);have HK1:=hid (K1.out.ext hx5)
 by_cases he:Q1g s p=0
 . have HV:=hid (Q4o he)
   have HF:Hid (Y8s s p=Q3r s p):=hid (if_pos he);have HE0:=hid he;have HPE:=hid he;have hne:(Q1g s p != 0)=false:=by simp [he]
   obtain ⟨E,hE⟩:∃ E,Q1g s p=E:=⟨_,rfl⟩;have HSE:Hid (∀ W,Ext w5 W -> Q0h W (.agg #[.int .i64 s.limit,.slice A s.ships.length capa,.slice B s.members.length capb]) s):=hid (fun W hW=>⟨_,_,rfl,H2.out.ext (HX5.out.trans hW)⟩);have HPO:Hid (∀ W,Ext w5 W -> Q0w W (.agg #[.slice R p.length capr]) p):=hid (fun W hW=>⟨_,rfl,HR.out.ext (HX5.out.trans hW)⟩);rw [hE] at hne HE0 ⊢;rw [HE0.out];clear he hE hx5;have hdr:=(Ext.refl w5).drew;go_wp2;refine Flow.Q1o [.w,.w,.w,.w,.w,.p,.p] [0,1,2,3,4,5,6] [[],[],[],[1,2],[0,3],[0,1,2,3,4],[0,1,2,3,4,5]]
    [.c 0 (.agg #[.int .i64 s.limit,.slice A s.ships.length capa,.slice B s.members.length capb]),.c 1 (.agg #[.int .i64 s.limit,.slice A s.ships.length capa,.slice B s.members.length capb]),.c 2 (.agg #[.slice R p.length capr]),⟨fun v wz=>(fun v w'=>Q3g w' (v 3) (Q2t s p)) v wz,by intro v a b hx h; exact Q3g.ext h hx⟩,⟨fun v wz=>(fun v w'=>Q0d w' (v 4) (Q3r s p)) v wz,by intro v a b hx h; exact Q0d.ext h hx⟩,.is 5 (fun v=>v 4),.c 6 (.int .i64 0)]
    (by kernel_rfl) rfl (by kernel_rfl) ⟨?g0,?g1,?g2,?g3,?g4,?g5,?g6,trivial⟩ ?post
   case g0 | g1=>
    intro v w1 hx;intro bb hbb;intro K hK;have o1:bb.eval (.tmp 2)=.pointer (some ⟨w.heap.size,0,none⟩):=by rw [hbb]; dsimp only; (try simp (discharger:=decide) only [eval_put_ne]); rfl
    exact Q0p (.tmp 2) _ rfl Tryz.X6u Tryz.Q9o o1 (HK0.out.ext (hdr.trans hx)) rfl (hK _ _ (Ext.refl _) rfl)
   case g2=>
    intro v w1 hx;intro bb hbb;intro K hK;have o1:bb.eval (.tmp 3)=.pointer (some ⟨w.heap.size + 1,0,none⟩):=by rw [hbb]; dsimp only; (try simp (discharger:=decide) only [eval_put_ne]); rfl
    exact Q0p (.tmp 3) _ rfl Tryz.Q8b Tryz.Q4b o1 (HK1.out.ext (hdr.trans hx)) rfl (hK _ _ (Ext.refl _) rfl)
   case g3=>
    intro v w1 hx;(repeat intro (zq:v _=_));intro bb hbb;subst hbb;intro K hK;go_simp;refine Q0e (Q6a w1 _ _ s p (HSE.out w1 (hdr.trans hx)) (HPO.out w1 (hdr.trans hx)) HV.out.1 HV.out.2) ?_;rintro e w2 ⟨x,rfl,h1,hx2⟩;exact ⟨_,rfl,hK _ _ hx2 h1⟩
   case g4=>
    intro v w1 hx (q0:v 0=_) (q3:(fun v w'=>Q3g w' (v 3) (Q2t s p)) v w1);intro bb hbb;subst hbb;intro K hK;go_simp;refine Q0e (Z5i w1 _ _ s p (HSE.out w1 (hdr.trans hx)) q3 HV.out.1) ?_;rintro e w2 ⟨x,rfl,h1,hx2⟩;exact ⟨_,rfl,hK _ _ hx2 h1⟩
   case g5=>
    intro v w1 hx (q0:v 0=_) (q1:v 1=_) (q2:v 2=_) _ _;intro bb hbb;subst hbb;refine ⟨_,fun w=>?_,rfl⟩;go_simp
   case g6=>
    intro v w1 hx (q0:v 0=_) (q1:v 1=_) (q2:v 2=_) _ _ (q5:v 5=v 4);intro bb hbb;subst hbb;refine ⟨_,fun w=>?_,rfl⟩;go_simp
   case post =>
    intro v w1 hx;(iterate 3 intro (zq:v _=_));intro (q3:(fun v w'=>Q3g w' (v 3) (Q2t s p)) v w1) (q4:(fun v w'=>Q0d w' (v 4) (Q3r s p)) v w1) (q5:v 5=v 4);(iterate 1 intro (zq:v _=_));simp only [Flow.All,Flow.acts,Act.put];go_simp;have HXX:=hid (HX5.out.trans (hdr.trans hx));have HQ:Hid (Q0d w1 (v 4) (Q3r s p)):=hid q4;clear hx hdr q3 q4 q5;(repeat clear zq);go_wp2;go_ret2;exact ⟨v 4,by rw [HPE.out]; rfl,by rw [HF.out]; exact HQ.out,HXX.out⟩
 . have HF:Hid (Y8s s p=[]):=hid (if_neg he)
   have hne:(Q1g s p != 0)=true:=by simp [he]
   obtain ⟨E,hE⟩:∃ E,Q1g s p=E:=⟨_,rfl⟩;have HPE:=hid hE;rw [hE] at hne ⊢;clear he hE hx5;go_wp2;go_ret2;exact ⟨_,by rw [HPE.out]; rfl,by rw [HF.out]; exact Z3w _,HX5.out⟩
theorem Y0j (w:World) (v u:Value) (s:Q0b) (p:List Rul) (hv:Q0h w v s) (hu:Q0w w u p) (hs:Q3k s) (hp:p.length <= 1000) :
    Calls Tryz.prog 37 #[v,u] w fun e w'=>e=.returned (.tuple #[.int .i64 (X0l s p),.int .i64 (Q1g s p)]) /\ Ext w w':=by
 obtain ⟨a,b,rfl,h2⟩:=hv;obtain ⟨rv,rfl,hr⟩:=hu;obtain ⟨A,capa,rfl,-,-,-⟩:=h2.ships.opened;obtain ⟨B,capb,rfl,-,-,-⟩:=h2.members.opened;obtain ⟨R,capr,rfl,-,-,-⟩:=hr.opened;have H2:=hid h2;have HR:=hid hr;have HS:=hid hs;clear h2 hr hs;go_enter Tryz.func37,Tryz.ntmps37;go_wp2_with fail;change Calls _ _ _ ((w.alloc (.cells #[.int .i64 s.limit,.slice A s.ships.length capa,.slice B s.members.length capb] 34)).alloc (.cells #[.slice R p.length capr] 38)) _;obtain ⟨W,hWW,k0,k1,HXW,eW⟩:=Q4e w 34 #[.int .i64 s.limit,.slice A s.ships.length capa,.slice B s.members.length capb] 38 #[.slice R p.length capr];rw [hWW];clear hWW;have K0:=hid k0;have K1:=hid k1;clear k0 k1;refine (Q3t _ _ _ s p ⟨_,_,rfl,H2.out.ext HXW.out⟩ ⟨_,rfl,HR.out.ext HXW.out⟩ HS.out hp).mono ?_;rintro e w5 ⟨rfl,hx5⟩;have HX5:=hid (HXW.out.trans hx5);have HK0:=hid (K0.out.ext hx5);have HK1:=hid (K1.out.ext hx5)
 by_cases he:Q1g s p=0
 . have HV:=hid (Q4o he)
   have HF:Hid (X0l s p=Q4z s p):=hid (if_pos he);have HE0:=hid he;have HPE:=hid he;have hne:(Q1g s p != 0)=false:=by simp [he]
   obtain ⟨E,hE⟩:∃ E,Q1g s p=E:=⟨_,rfl⟩;have HSE:Hid (∀ W,Ext w5 W -> Q0h W (.agg #[.int .i64 s.limit,.slice A s.ships.length capa,.slice B s.members.length capb]) s):=hid (fun W hW=>⟨_,_,rfl,H2.out.ext (HX5.out.trans hW)⟩);have HPO:Hid (∀ W,Ext w5 W -> Q0w W (.agg #[.slice R p.length capr]) p):=hid (fun W hW=>⟨_,rfl,HR.out.ext (HX5.out.trans hW)⟩);rw [hE] at hne HE0 ⊢;rw [HE0.out];have c0:=(HK0.out).cell 0;have c1:=(HK0.out).cell 1;have c2:=(HK0.out).cell 2;simp only [Go.Tw.gA,Go.Tw.gB,Go.Tw.gC] at c0 c1 c2;have d0:=(HK1.out).cell 0;simp only [Go.Tw.gA,Go.Tw.gB] at d0;clear he hE hx5;go_wp2_with (go_at_call 103; refine (X4y _ _ _ s p (HSE.out _ (Ext.refl _)) (HPO.out _ (Ext.refl _)) HV.out.1 HV.out.2).mono ?_; rintro e w6 ⟨rfl,hx6⟩);go_ret2;exact ⟨by rw [HF.out,HPE.out]; rfl,HX5.out.trans hx6⟩
 . have HF:Hid (X0l s p=0):=hid (if_neg he)
   have hne:(Q1g s p != 0)=true:=by simp [he]
   obtain ⟨E,hE⟩:∃ E,Q1g s p=E:=⟨_,rfl⟩;have HPE:=hid hE;rw [hE] at hne ⊢;clear he hE hx5;go_wp2;go_ret2;exact ⟨by rw [HF.out,HPE.out]; rfl,HX5.out⟩
theorem Z0h (w:World) (v u:Value) (s:Q0b) (p:List Rul) (hv:Q0h w v s) (hu:Q0w w u p) (hs:Q3k s) (hp:p.length <= 1000) :
    Calls Tryz.prog 38 #[v,u] w fun e w'=>e=.returned (.tuple #[.int .i64 (Y7p s p),.int .i64 (Q1g s p)]) /\ Ext w w':=by
 obtain ⟨a,b,rfl,h2⟩:=hv;obtain ⟨rv,rfl,hr⟩:=hu;obtain ⟨A,capa,rfl,-,-,-⟩:=h2.ships.opened;obtain ⟨B,capb,rfl,-,-,-⟩:=h2.members.opened;obtain ⟨R,capr,rfl,-,-,-⟩:=hr.opened;have H2:=hid h2;have HR:=hid hr;have HS:=hid hs;clear h2 hr hs;go_enter Tryz.func38,Tryz.ntmps38;go_wp2_with fail;change Calls _ _ _ ((w.alloc (.cells #[.int .i64 s.limit,.slice A s.ships.length capa,.slice B s.members.length capb] 34)).alloc (.cells #[.slice R p.length capr] 38)) _;obtain ⟨W,hWW,k0,k1,HXW,eW⟩:=Q4e w 34 #[.int .i64 s.limit,.slice A s.ships.length capa,.slice B s.members.length capb] 38 #[.slice R p.length capr];rw [hWW];clear hWW;have K0:=hid k0;have K1:=hid k1;clear k0 k1;refine (Q3t _ _ _ s p ⟨_,_,rfl,H2.out.ext HXW.out⟩ ⟨_,rfl,HR.out.ext HXW.out⟩ HS.out hp).mono ?_;rintro e w5 ⟨rfl,hx5⟩;have HX5:=hid (HXW.out.trans hx5);have HK0:=hid (K0.out.ext hx5);have HK1:=hid (K1.out.ext hx5)
 by_cases he:Q1g s p=0
 . have HV:=hid (Q4o he)
   have HF:Hid (Y7p s p=X2t s p):=hid (if_pos he);have HE0:=hid he;have HPE:=hid he;have hne:(Q1g s p != 0)=false:=by simp [he]
   obtain ⟨E,hE⟩:∃ E,Q1g s p=E:=⟨_,rfl⟩;have HSE:Hid (∀ W,Ext w5 W -> Q0h W (.agg #[.int .i64 s.limit,.slice A s.ships.length capa,.slice B s.members.length capb]) s):=hid (fun W hW=>⟨_,_,rfl,H2.out.ext (HX5.out.trans hW)⟩);have HPO:Hid (∀ W,Ext w5 W -> Q0w W (.agg #[.slice R p.length capr]) p):=hid (fun W hW=>⟨_,rfl,HR.out.ext (HX5.out.trans hW)⟩);rw [hE] at hne HE0 ⊢;rw [HE0.out];have c0:=(HK0.out).cell 0;have c1:=(HK0.out).cell 1;have c2:=(HK0.out).cell 2;simp only [Go.Tw.gA,Go.Tw.gB,Go.Tw.gC] at c0 c1 c2;have d0:=(HK1.out).cell 0;simp only [Go.Tw.gA,Go.Tw.gB] at d0;clear he hE hx5;go_wp2_with (go_at_call 103; refine (X4y _ _ _ s p (HSE.out _ (Ext.refl _)) (HPO.out _ (Ext.refl _)) HV.out.1 HV.out.2).mono ?_; rintro e w6 ⟨rfl,hx6⟩);go_ret2;exact ⟨by rw [HF.out,HPE.out]; rfl,HX5.out.trans hx6⟩
 . have HF:Hid (Y7p s p=0):=hid (if_neg he)
   have hne:(Q1g s p != 0)=true:=by simp [he]
   obtain ⟨E,hE⟩:∃ E,Q1g s p=E:=⟨_,rfl⟩;have HPE:=hid hE;rw [hE] at hne ⊢;clear he hE hx5;go_wp2;go_ret2;exact ⟨by rw [HF.out,HPE.out]; rfl,HX5.out⟩
end Go.Proofs
namespace Go.Proofs
open Go.RowKit Go.Tw Go.Flow
attribute [local go_sem] Oper.semAt_some
theorem Y9u (W:World) (v:Value):Calls Tryz.prog 115 #[v] W fun e W'=>e=.returned v /\ W=W':=by
 go_enter Tryz.func115,Tryz.ntmps115;go_wp2;go_ret;exact ⟨rfl,rfl⟩
theorem Tryz.Z4x:(Tryz.prog.info? 22).map (fun i=>(i.zero,i.size,i.bytes))=some (some (.slice none 0 0),1,24):=by kernel_rfl
theorem Y9l (ll:List (List Int)) {k:Nat} (hk:k < ll.length):ll.take (k + 1)=ll.take k ++ [ll.getD k []]:=by
 rw [List.take_succ_eq_append_getElem hk,Q0v _ hk]
theorem X6p (w:World) (v:Value) (ll:List (List Int)) (hv:Q2z w v ll) (hle:ll.length <= 4096) :
    Calls Tryz.prog 114 #[v,.func (.func 115) #[] #[]] w fun e w'=>∃ x,e=.returned x /\ Q2z w' x ll /\ Ext w w':=by
 obtain ⟨i0,hi,hz0,hz1,hz2⟩:=info_parts Tryz.Z4x;obtain ⟨A,cap,rfl,hl,hcap,hc⟩:=hv.opened;have HC:=hid hc;clear hv hc;go_enter Tryz.func114,Tryz.ntmps114;go_wp2
 go_loopw [5,10] (fun o i wr=>∃ (k:Nat) (vs:List Value),k <= ll.length /\ i=.int .i64 k /\ Q0q wr w.heap.size 22 idV o vs /\ Reads w vs (ll.take k) /\ Ext w wr) (fun _ i _=>ll.length - (intOf i).toNat)
 case atStart=>exact ⟨0,[],Nat.zero_le _,rfl,Q0q.nil _ _ _ _,⟨rfl,fun i hi=>by simp at hi⟩,Ext.refl _⟩
 case round =>
  obtain ⟨k,vs,hk,rfl,hown,hrd,hx⟩:=hrel;have hlen:vs.length=k:=by have:=hrd.1; rw [List.length_take] at this; omega
  have HRD:=hid hrd;clear hrd
  by_cases hlt:k < ll.length
  . obtain ⟨b,off,m,rfl,-,hcell,hm⟩:=HC.out k hlt
    have HRS:=hid (HRD.out.snoc hm);have HTK:=hid (Y9l ll hlt);obtain ⟨Am,capm,rfl,-,-,-⟩:=hm.opened;obtain ⟨n,hn⟩:∃ n,(ll.getD k []).length=n:=⟨_,rfl⟩;rw [hn] at HRS hcell;replace hcell:=hx.cell hcell;have HFS:=hid (Y9u wr (.slice Am n capm));have hll:vs.length <= 4096:=by omega
    clear hlen hm hn;go_wp2_with (first | (refine HFS.out.mono ?_; rintro e w9 ⟨rfl,rfl⟩) | (at_builtin; refine wpList_append_own _ rfl _ _ 72 rfl (w.heap.size) 22 i0 (.slice none 0 0) 1 24 Tryz.underlying72 hi hz0 hz1 hz2 rfl (by decide) _ _ _ rfl (World.ownsRow.alloc hown _) ⟨wr.heap.size,0,none⟩ 1 1 [.slice Am n capm] rfl rfl ?_ ?_ ?_ ?_ ?_ ?_; exact Q4p _ _ _; (focus (simp [Value.oneCell'])); (focus (unfold maxLen; omega)); (focus omega); (focus (have:=hx.size; simp at this ⊢; omega)); intro v' w1 hown' hgrow _))
    have hx':=Q2w hx hown (Nat.le_refl _) hgrow;go_wp2;go_roundw
    case rel=>exact ⟨k + 1,vs ++ [.slice Am n capm],by omega,by go_num,Q0q.snoc (x:=Value.slice Am n capm) hown',by rw [HTK.out]; exact HRS.out,hx'⟩
    case measure=>simp [intOf]; omega
  . have HE:Hid (ll.take k=ll):=hid (List.take_of_length_le (by omega))
    rw [HE.out] at HRD;have HOWN:=hid hown;clear hown hlen;go_wp2;go_ret;exact ⟨_,rfl,HOWN.out.Z9a (HRD.out.ext hx) hl,hx⟩
def Z4z (s:Q0b):List (List Int):=if s.err=0 then s.hist else []
theorem Y9v (w:World):Q2z w (.slice none 0 0) []:=Go.Tw.Rows.nil _ _ _
theorem Z7y {s:Q0b} (hS:Q1b s):s.hist.length <= 4096:=by
 have hpos:∀ (h:List Int) (row:List (List Int)) n,Q2x h row n <= n:=fun h row n=>(posB h row n).1;have hput:∀ (h:List Int) (row:List (List Int)),(Q9j h row).length <= row.length + 1:=fun h row=>by
  unfold Q9j;have:=hpos h row row.length;dsimp only
  split
  . omega
  . simp only [List.length_append,List.length_take,List.length_drop,List.length_cons,List.length_nil]; omega
 have hrow:∀ t i,(s.X0s t i).length <= i:=by
  intro t i
  induction i with
  | zero=>exact Nat.le_refl _
  | succ i ih =>
    have:=hput ((Q0c s.members i).take (t + 1)) (s.X0s t i);show (Q9j ((Q0c s.members i).take (t + 1)) (s.X0s t i)).length <= _;omega
 have hall:∀ n,(s.Q7i n).length <= n * s.members.length:=by
  intro n
  induction n with
  | zero=>exact Nat.zero_le _
  | succ n ih =>
    show (s.Q7i n ++ s.X0s n s.members.length).length <= _;have:=hrow n s.members.length;rw [List.length_append,Nat.add_mul,Nat.one_mul];omega
 have h1:=hall s.ships.length;have h2:s.ships.length * s.members.length <= 6 * 8:=Nat.mul_le_mul hS.tides.2 hS.some.2;show (s.Q7i s.ships.length).length <= _;omega
theorem X6y (w:World) (v:Value) (s:Q0b) (hv:Q0h w v s) (hs:Q3k s) :
    Calls Tryz.prog 42 #[v] w fun e w'=>∃ x,e=.returned (.tuple #[x,.int .i64 s.err]) /\ Q2z w' x (Z4z s) /\ Ext w w':=by
 obtain ⟨a,b,rfl,h2⟩:=hv;obtain ⟨A,capa,rfl,-,-,-⟩:=h2.ships.opened;obtain ⟨B,capb,rfl,-,-,-⟩:=h2.members.opened;have H2:=hid h2;have HS:=hid hs;clear h2 hs;go_enter Tryz.func42,Tryz.ntmps42;go_wp2_with fail;change Calls _ _ _ (w.alloc (.cells #[.int .i64 s.limit,.slice A s.ships.length capa,.slice B s.members.length capb] 34)) _;obtain ⟨W,hWW,k0,HXW,eW⟩:=Q1t w 34 #[.int .i64 s.limit,.slice A s.ships.length capa,.slice B s.members.length capb];rw [hWW];clear hWW;have K0:=hid k0;clear k0;refine (Q1u _ _ s ⟨_,_,rfl,H2.out.ext HXW.out⟩ HS.out).mono ?_;rintro e w5 ⟨rfl,hx5⟩;have HX5:=hid (HXW.out.trans hx5);have HK0:=hid (K0.out.ext hx5)
 by_cases he:s.err=0
 . have HV:=hid (Q1b.of he)
   have HF:Hid (Z4z s=s.hist):=hid (if_pos he);have HPE:=hid he;have hne:(s.err != 0)=false:=by simp [he]
   obtain ⟨E,hE⟩:∃ E,s.err=E:=⟨_,rfl⟩;have HE0:=hid (hE.symm.trans he);have c0:=(HK0.out).cell 0;have c1:=(HK0.out).cell 1;have c2:=(HK0.out).cell 2;simp only [Go.Tw.gA,Go.Tw.gB,Go.Tw.gC] at c0 c1 c2;rw [hE] at hne ⊢;rw [HE0.out];clear he hE hx5;go_wp2_with (first | (go_at_call 99; refine (Q6y _ _ s ⟨_,_,rfl,H2.out.ext HX5.out⟩ HV.out).mono ?_; rintro e w6 ⟨x,rfl,hi6,hx6⟩; have HI6:=hid hi6; obtain ⟨A6,c6,rfl,-,-,-⟩:=hi6.opened; clear hi6) | (go_at_call 114; refine (X6p _ _ s.hist HI6.out (Z7y HV.out)).mono ?_; rintro e w7 ⟨x,rfl,hi7,hx7⟩))
   go_ret2;exact ⟨_,by rw [HPE.out]; rfl,by rw [HF.out]; exact hi7,HX5.out.trans (hx6.trans hx7)⟩
 . have HF:Hid (Z4z s=[]):=hid (if_neg he)
   have hne:(s.err != 0)=true:=by simp [he]
   obtain ⟨E,hE⟩:∃ E,s.err=E:=⟨_,rfl⟩;have HPE:=hid hE;rw [hE] at hne ⊢;clear he hE hx5;go_wp2;go_ret2;exact ⟨_,by rw [HPE.out]; rfl,by rw [HF.out]; exact Y9v _,HX5.out⟩
end Go.Proofs
