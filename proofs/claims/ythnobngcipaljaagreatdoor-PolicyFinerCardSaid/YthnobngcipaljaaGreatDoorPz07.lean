/- Contract: split, one tide more, for seasons of at most 12 histories. Contracts: split, plans, Most, for seasons of at most 12 histories. The law PolicyFiner from region 20 on: the loop over the members and the end. -/
import Derived.Test.YthnobngcipaljaaGreatDoorPp35
import Derived.Test.YthnobngcipaljaaGreatDoorPz01
import Derived.Test.YthnobngcipaljaaGreatDoorPz06
import Derived.Test.YthnobngcipaljaaGreatDoorPz05
set_option maxRecDepth 1000000
set_option maxHeartbeats 64000000
set_option linter.unusedVariables false
set_option linter.unusedSimpArgs false
set_option linter.constructorNameAsVariable false
open Go.Lib (hid)
namespace Go.Proofs
open Go.RowKit Go.Tw Go.Flow
attribute [local go_sem] Oper.semAt_some
theorem J5w (s:Q0b) (hV:Q1b s) (hF:s.hist.length <= 12) (k:Nat) (hk1:k + 1 <= s.ships.length) (hSub:Y3c s k):Y3c s (k + 1):=by
 intro w B u v l hu hv hkn hlv hsh hl;have HSUB:=hid hSub;obtain ⟨aS,bS,rfl,h2⟩:=hu;obtain ⟨A,capa,rfl,-,-,-⟩:=h2.ships.opened;obtain ⟨M,capb,rfl,-,-,-⟩:=h2.members.opened;have h6:=hV.tides;obtain ⟨i0,hi,hz0,hz1,hz2⟩:=info_parts Tryz.Z3i;have HH2:=hid h2;have HKN:=hid hkn;have HV:=hid hV;have HLV:=hid hlv;have HSHR:=hid hsh;have HBC:=hid (Y0q hV hk1 (Q6b hV k (by omega)) hkn hsh)
 have HBD:=hid (fun (c:Nat) (hn:Q6k s (s.ships.length - (k + 1)) c l ≠ [])=>X5n hV hk1 (Q6b hV k (by omega)) (Q6r hkn) hn (by
  have:=Q8g (c:=c) hV.toFine hkn (by omega) hsh
  have e1:s.ships.length - k=s.ships.length - (k + 1) + 1:=by omega
  rw [e1]; exact this))
 have HDEC:=hid (fun (W:World) (v:Value) (c:Nat) (B:Nat) (hW:Ext w W) (hv:Q0z W B 233 3 encR v (Q6k s (s.ships.length - (k + 1)) c l)) (hn:Q6k s (s.ships.length - (k + 1)) c l ≠ []) =>
  J6g W B _ v s k _ hSub ⟨_,_,rfl,h2.ext hW⟩ hv hV hk1 hF (Q6r hkn) (fun r hr=>hlv r (List.mem_filter.1 hr).1) (by
   have:=Q8g (c:=c) hV.toFine hkn (by omega) hsh
   have e1:s.ships.length - k=s.ships.length - (k + 1) + 1:=by omega
   rw [e1]; exact this) hn (Nat.le_trans Y6b hl))
 have HUN:Hid (∀ c,X2m s (s.ships.length - (k + 1)) (X2n s (s.ships.length - (k + 1)) c l) + X2m s (s.ships.length - (k + 1)) (Q6k s (s.ships.length - (k + 1)) c l) <= 12):=hid (fun c=>by
  rw [<- Y3w];exact Nat.le_trans (X5i _ _) hF)
 have HCS:Hid (∀ c,Q6k s (s.ships.length - (k + 1)) c l=[] -> Q1x s (s.ships.length - (k + 1)) (Q1w s k) l (c + 1)=Q1x s (s.ships.length - (k + 1)) (Q1w s k) l c):=hid (fun c h=>by rw [Q1x,if_pos h])
 have HCT:Hid (∀ c,Q6k s (s.ships.length - (k + 1)) c l ≠ [] -> Q1x s (s.ships.length - (k + 1)) (Q1w s k) l (c + 1)=together (Q1x s (s.ships.length - (k + 1)) (Q1w s k) l c) (Q3l s (s.ships.length - (k + 1)) (Q1w s k) (Q6k s (s.ships.length - (k + 1)) c l))):=hid (fun c h=>by rw [Q1x,if_neg h])
 have HFIN:Hid (Q1w s (k + 1) l=Q1x s (s.ships.length - (k + 1)) (Q1w s k) l 10):=hid rfl;have HC0:Hid (Q1x s (s.ships.length - (k + 1)) (Q1w s k) l 0=[⟨0,0,0,[]⟩]):=hid rfl;have HRB:Hid (∀ l',Known s l' -> l'.length <= 8 -> 0 <= Q4v s l' /\ Q4v s l' <= 8000):=hid (fun l' h h8=>by have:=X9f hV h; omega)
 have HKL:Hid (∀ c,Known s (X2n s (s.ships.length - (k + 1)) c l) /\ (X2n s (s.ships.length - (k + 1)) c l).length <= 8):=hid (fun c=>⟨Z2a hkn,Nat.le_trans (List.length_filter_le _ _) hl⟩);have HKO:Hid (∀ c,Known s (Q6k s (s.ships.length - (k + 1)) c l) /\ (Q6k s (s.ships.length - (k + 1)) c l).length <= 8):=hid (fun c=>⟨Q6r hkn,Nat.le_trans Y6b hl⟩);rw [HFIN.out];obtain ⟨Al,cl,hAl,HCELL⟩:=hv.reads Q6v;subst hAl;have hts:s.ships.length - (k + 1) < s.ships.length:=by omega
 have hk6:k + 1 <= 6:=by omega
 obtain ⟨t,ht⟩:∃ z,s.ships.length - (k + 1)=z:=⟨_,rfl⟩;rw [ht] at HBC HBD HDEC HUN HCS HCT HC0 HKL HKO hts ⊢;have HTNE:Hid (¬ (t:Int)=s.ships.length):=hid (by omega)
 obtain ⟨sub,hsub⟩:∃ z,Q1w s k=z:=⟨_,rfl⟩;rw [hsub] at HBC HBD HDEC HCS HCT HC0 ⊢;clear h2 hv hkn hlv hsh hV HFIN hSub hF hsub ht;go_enter Tryz.func157,Tryz.ntmps157;go_wp2_with fail;change Code.wp _ _ _ _ ((w.alloc (.cells #[.int .i64 s.limit,.slice A s.ships.length capa,.slice M s.members.length capb] 34)).alloc (.cells #[.int .i64 0,.int .i64 0,.int .i64 0,.slice none 0 0] 159));obtain ⟨W,hWW,k0,k1,HXW,eW⟩:=Q4e w 34 #[.int .i64 s.limit,.slice A s.ships.length capa,.slice M s.members.length capb] 159 #[.int .i64 0,.int .i64 0,.int .i64 0,.slice none 0 0];rw [hWW];clear hWW;have K0:=hid k0;have HOP:=hid (Y7r k1 (B:=w.heap.size) (by omega))
 obtain ⟨gs,hgs⟩:∃ z,w.heap.size=z:=⟨_,rfl⟩;have HGS:=hid hgs;rw [hgs] at K0 HOP eW ⊢;have hbq:((t:Int) == (s.ships.length:Int))=false:=by simpa using HTNE.out
 rw [hbq];clear k0 k1 hgs hbq
 go_loopw [10,43] (fun o i wr=>∃ (c:Nat) (qs:List PV),c <= 10 /\ i=.int .i64 c /\ Q0z wr w.heap.size 159 4 Q2f o qs /\ Q0j wr qs /\ qs.map (·.1)=Q1x s t sub l c /\ Ext W wr) (fun _ i _=>10 - (intOf i).toNat)
 case atStart=>exact ⟨0,_,Nat.zero_le _,rfl,by rw [HGS.out]; exact HOP.out,X7n _ _,by rw [HC0.out]; rfl,Ext.refl _⟩
 case round =>
  clear HOP HC0;obtain ⟨c,qs,hc,rfl,hown,hcr,hun,hx⟩:=hrel;have HUN2:=hid hun;have HX:=hid hx;have HOW:=hid hown;have HCR:=hid hcr
  by_cases hlt:c < 10
  . have hcI:(c:Int) < 10:=by omega
    obtain ⟨w0,rfl⟩:∃ X,X=wr:=⟨_,rfl⟩;clear hown hcr hun hx
    go_light
    go_wp2
    go_loopw [12,48] (fun v j wq=>∃ (n:Nat),n <= l.length /\ j=.int .i64 n /\ Q0z wq w0.heap.size 233 3 encR v (Q6k s t c (l.take n)) /\ Ext w0 wq) (fun _ j _=>l.length - (intOf j).toNat)
    case atStart=>exact ⟨0,Nat.zero_le _,rfl,Q0z.nil _ _ _ _ _,Ext.refl _⟩
    case round =>
     obtain ⟨n,hn,rfl,hown,hx⟩:=hrel;have HOR:=hid hown;have HX2:=hid hx
     by_cases hnl:n < l.length
     . obtain ⟨gl,rfl,hcell⟩:=HCELL.out n hnl
       have hxw:=HXW.out.trans (HX.out.trans hx);have e0:=hxw.cell (hcell 0 (by omega))
       have e1:=hxw.cell (hcell 1 (by omega))
       have e2:=hxw.cell (hcell 2 (by omega))
       have hmr:=HKN.out _ (List.getElem_mem hnl);have hsm:=Z5s (s:=s) (t:=t) (c:=c) (List.getElem?_eq_getElem hnl);obtain ⟨r,hr⟩:∃ z,l[n]=z:=⟨_,rfl⟩;rw [hr] at e0 e1 e2 hmr hsm;obtain ⟨i,hri⟩:∃ z,r.member=z:=⟨_,rfl⟩;obtain ⟨r2,hr2⟩:∃ z,r.level=z:=⟨_,rfl⟩;obtain ⟨r3,hr3⟩:∃ z,r.dry=z:=⟨_,rfl⟩;have HPR:=hid (show r.member=i /\ r.level=r2 /\ r.dry=r3 from ⟨hri,hr2,hr3⟩)
       rw [hri] at hmr hsm;replace e0:wr.cell? ⟨gl,n * 3,none⟩=some (.int .i64 (i:Int)):=by rw [<- hri]; exact e0
       replace e1:wr.cell? ⟨gl,n * 3 + 1,none⟩=some (.int .i64 r2):=by rw [<- hr2]; exact e1
       replace e2:wr.cell? ⟨gl,n * 3 + 2,none⟩=some (.bool r3):=by rw [<- hr3]; exact e2
       obtain ⟨bm,off,capx,capy,capz,X,Y,Z,hm⟩:=Q2l HH2.out.members hmr;obtain rfl:=hm.addr;have hcl:=(HV.out.shaped i hmr).1;have hclt:t < (Q0c s.members i).length:=by omega
       obtain ⟨X',capx',hXe,-,-,hcX⟩:=hm.x.opened;injection hXe with hXe hce hcpe;subst hXe;subst hcpe;obtain ⟨bc,oc,hXe,hxc⟩:=hcX t hclt;subst hXe;have hbox:=Ext.box wr (.cells #[.int .i64 (i:Int),.int .i64 r2,.bool r3] 233);have K3:=Blk.made wr 233 #[.int .i64 (i:Int),.int .i64 r2,.bool r3];have d0:=(K3).cell 0;have d1:=(K3).cell 1;have d2:=(K3).cell 2;simp only [Go.Tw.gA,Go.Tw.gB,Go.Tw.gC] at d0 d1 d2;have hme:=hbox.cell (hxw.cell hm.e2);have hmc:=hbox.cell (hxw.cell hxc);have c2:=(K0.out.ext (HX.out.trans (hx.trans hbox))).cell 2;simp only [Go.Tw.gA,Go.Tw.gB,Go.Tw.gC] at c2;have hiI:(i:Int) < s.members.length:=by omega
       have hnI:(n:Int) < l.length:=by omega
       have HX9:=hid (hx.trans hbox);have HK3:=hid K3;have HOB:=hid (Q0z.below hown hbox);have HLW:Hid ((Q6k s t c (l.take n)).length + 1 <= 100000):=hid (by
        have h1:(Q6k s t c (l.take n)).length <= (l.take n).length:=Y6b;rw [List.length_take] at h1;omega)
       obtain ⟨lc,hlce⟩:∃ x,(Q0c s.members i).length=x:=⟨_,rfl⟩;rw [hlce] at hme hclt;have htc:(t:Int) < lc:=by omega
       obtain ⟨cv,hcv⟩:∃ x,ix (Q0c s.members i) t=x:=⟨_,rfl⟩;rw [hcv] at hmc hsm;obtain ⟨zs,hzs⟩:∃ x,Q6k s t c (l.take n)=x:=⟨_,rfl⟩;rw [hzs] at hsm HOB HLW;have HSM:=hid hsm;obtain ⟨Ao,co,hos,-⟩:=HOB.out.shape;subst hos;clear hcell hxw hmr hsm hr hri hr2 hr3 hm hcl hcX hxc hbox K3 hx hown hlce hcv hzs HOR
       go_light
       by_cases he:cv=(c:Int)
       . rw [if_pos he] at HSM
         subst he;have HNWS:Hid (∀ (W:World) gn,Blk W gn 233 #[.int .i64 (i:Int),.int .i64 r2,.bool r3] -> ∀ j u,(encR r)[j]?=some u -> W.cell? ((⟨gn,0,none⟩:Addr).add j)=some u):=hid (fun W gn hb=>by unfold encR; rw [HPR.out.1,HPR.out.2.1,HPR.out.2.2]; exact Q5g hb)
         have HSW:=hid HX9.out.size;obtain ⟨wd,hwd⟩:∃ X,wr.alloc (.cells #[.int .i64 (i:Int),.int .i64 r2,.bool r3] 233)=X:=⟨_,rfl⟩;rw [hwd] at HX9 HOB HSW HK3 d0 d1 d2 hme hmc c2;go_wp2_with (refine Q1z (o:=⟨some 67,_,_,_,_,_⟩) rfl ?_; (try rw [hwd]); refine Q2i (.tmp 64) (.tmp 66) 231 rfl w0.heap.size 233 i0 (.agg #[.int .i64 0,.int .i64 0,.bool false]) 3 24 Tryz.underlying231 hi hz0 hz1 hz2 rfl (by decide) encR Q6v _ zs r rfl (HOB.out.below (Ext.box _ _)) ⟨wd.heap.size,0,none⟩ 1 rfl (HNWS.out _ _ (Blk.made _ _ _)) (Y0b r) HLW.out (by decide) (by have h1:=(Ext.box wd (.cells #[.int .i64 (i:Int),.int .i64 r2,.bool r3] 233)).size; have h2:=HSW.out; omega) ?_; intro v' w9 hown' hgrow)
         have hg:(wd.alloc (.cells #[.int .i64 (i:Int),.int .i64 r2,.bool r3] 233)).grownBy w9 (Value.slice Ao zs.length co).ownBlock:=hgrow;have hxx:=Ext.box wd (.cells #[.int .i64 (i:Int),.int .i64 r2,.bool r3] 233);have hO3:=HOB.out.below hxx;have hX':Ext w0 w9:=Below.grown (HX9.out.trans hxx) hg (by have:=hxx.size; have:=HSW.out; omega) (fun b hb=>(hO3.Q8q b hb).1)
         go_roundw
         case rel=>exact ⟨n + 1,by omega,by go_num,by rw [HSM.out]; exact hown',hX'⟩
         case measure=>simp [intOf]; omega
       . rw [if_neg he,List.append_nil] at HSM
         go_wp2;go_roundw
         case rel=>exact ⟨n + 1,by omega,by go_num,by rw [HSM.out]; exact HOB.out,HX9.out⟩
         case measure=>simp [intOf]; omega
     . have hne:n=l.length:=by omega
       subst hne;rw [List.take_length] at HOR;clear hown hx;obtain ⟨ow,how⟩:∃ z,Q6k s t c l=z:=⟨_,rfl⟩;obtain ⟨Ao,co,hos,-⟩:=HOR.out.shape;subst hos;have HX3:=hid (HX.out.trans HX2.out)
       by_cases hE:ow=[]
       . have HC1:Hid (Q1x s t sub l (c + 1)=Q1x s t sub l c):=hid (HCS.out c (by rw [how]; exact hE))
         have h0:(Q6k s t c l).length=0:=by rw [how,hE]; rfl
         rw [h0];clear how hE;go_wp2;go_roundw
         case rel=>exact ⟨c + 1,qs,by omega,by go_num,HOW.out.below HX2.out,HCR.out.ext HX2.out,by rw [HC1.out]; exact HUN2.out,HX3.out⟩
         case measure=>simp [intOf]; omega
       . have hne:Q6k s t c l ≠ []:=by rw [how]; exact hE
         have HC1:=hid (HCT.out c hne);have HD:=hid (fun (W:World) (hW:Ext w W) hv=>HDEC.out W (.slice Ao (Q6k s t c l).length co) c w0.heap.size hW hv hne);have HB:=hid (HBD.out c hne);have hpos:0 < (Q6k s t c l).length:=List.length_pos_iff.2 hne;have hposI:(0:Int) < (Q6k s t c l).length:=by omega
         have HTO:Hid (∀ q ∈ qs,Y8m q.1):=hid (fun q hq=>by
          have hm:q.1 ∈ Q1x s t sub l c:=by rw [<- HUN2.out]; exact List.mem_map_of_mem hq
          have hb:=HUN.out c;exact J3e ((HBC.out c).2 _ hm) hk6 (HRB.out _ (HKL.out c).1 (HKL.out c).2) (by omega))
         have HTD:Hid (∀ x ∈ Q3l s t sub (Q6k s t c l),Y8m x):=hid (fun x hx=>by
          have hb:=HUN.out c;exact J3e (HB.out.2.2 x hx) hk6 (HRB.out _ (HKO.out c).1 (HKO.out c).2) (by omega))
         have HLL:Hid (qs.length * (Q3l s t sub (Q6k s t c l)).length <= 4096 /\ qs.length <= 4096 /\ (Q3l s t sub (Q6k s t c l)).length <= 4096):=hid (by
          have hb:=HUN.out c;have h1:=(HBC.out c).1;rw [<- HUN2.out,List.length_map] at h1;have h2:=HB.out.2.1;have h3:qs.length * (Q3l s t sub (Q6k s t c l)).length <= 2 ^ 12:=Nat.le_trans (Nat.mul_le_mul h1 h2) (by rw [<- Nat.pow_add]; exact Nat.pow_le_pow_right (by omega) hb)
          have h4:qs.length <= 2 ^ 12:=Nat.le_trans h1 (Nat.pow_le_pow_right (by omega) (by omega))
          have h5:(Q3l s t sub (Q6k s t c l)).length <= 2 ^ 12:=Nat.le_trans h2 (Nat.pow_le_pow_right (by omega) (by omega))
          omega)
         obtain ⟨dc,hdc⟩:∃ z,Q3l s t sub (Q6k s t c l)=z:=⟨_,rfl⟩;rw [hdc] at HTD HLL HC1 HD;obtain ⟨ol,hol⟩:∃ z,(Q6k s t c l).length=z:=⟨_,rfl⟩;rw [hol] at HOR HD hposI ⊢;have k0:=K0.out.ext HX3.out;have c0:=(k0).cell 0;have c1:=(k0).cell 1;have c2:=(k0).cell 2;simp only [Go.Tw.gA,Go.Tw.gB,Go.Tw.gC] at c0 c1 c2;have HXW3:=hid (HXW.out.trans HX3.out);have hOr:=HOR.out;have HDC:=hid (HD.out _ HXW3.out hOr);clear how hE hne hpos hdc hol k0 HB HBC HBD HDEC HUN HCS HCT hOr;go_wp2_with (go_at_call 185; refine HDC.out.mono ?_; rintro e w5 ⟨x5,qs5,rfl,h1,h2,h3,h4⟩; refine halted ?_);have H4:=hid h4;have HTG:=hid (Y1z w5 w.heap.size _ _ x5 qs qs5 (HOW.out.below (HX2.out.trans h4)) h1 (HCR.out.ext (HX2.out.trans h4)) h2 HTO.out (fun q hq=>HTD.out _ (by rw [<- h3]; exact List.mem_map_of_mem hq)) (by have:=HLL.out.1; rw [<- h3,List.length_map] at this; omega) (by have:=HLL.out.2.1; omega) (by have:=HLL.out.2.2; rw [<- h3,List.length_map] at this; omega))
         have HM5:=hid h3;clear h1 h2 h3 h4;unfold Q1i;go_wp2_with (go_at_call 184; refine HTG.out.mono ?_; rintro e w6 ⟨x6,qs6,rfl,h1,h2,h3,h4⟩; refine halted ?_);have HX6:Hid (Ext wr w6):=hid (H4.out.trans h4);have HO6:=hid h1;have HC6:=hid h2;have HM6:=hid h3;clear h1 h2 h3 h4;unfold Q1i;go_wp2;go_roundw
         case rel=>exact ⟨c + 1,qs6,by omega,by go_num,Q0z.weaken HO6.out (HXW3.out.trans H4.out).size,HC6.out,by rw [HM6.out,HC1.out,HUN2.out,HM5.out],HX3.out.trans HX6.out⟩
         case measure=>simp [intOf]; omega
  . have hce:c=10:=by omega
    subst hce;clear hown hcr hun hx;go_wp2;go_ret;exact ⟨_,qs,rfl,HOW.out,HCR.out,HUN2.out,HXW.out.trans HX.out⟩
end Go.Proofs
namespace Go.Proofs
open Go.RowKit Go.Tw Go.Flow
attribute [local go_sem] Oper.semAt_some
theorem J4u (s:Q0b) (hV:Q1b s) (hF:s.hist.length <= 12):∀ k,k <= s.ships.length -> Y3c s k
 | 0,_=>Y8p s hV
 | k + 1,h=>J5w s hV hF k h (J4u s hV hF k (by omega))
theorem J6m (w:World) (v:Value) (s:Q0b) (hv:Q0h w v s) (hV:Q1b s) (hF:s.hist.length <= 12) :
    Calls Tryz.prog 94 #[v] w fun e w'=>∃ x qs,e=.returned x /\ Q0z w' w.heap.size 159 4 Q2f x qs /\ Q0j w' qs /\ qs.map (·.1)=Q2j s /\ Ext w w':=by
 obtain ⟨aS,bS,rfl,h2⟩:=hv;obtain ⟨A,capa,rfl,-,-,-⟩:=h2.ships.opened;obtain ⟨M,capb,rfl,-,-,-⟩:=h2.members.opened;obtain ⟨i0,hi,hz0,hz1,hz2⟩:=info_parts Tryz.Z3i;have h8:=hV.some;have HSP:=hid (fun (W:World) (u:Value) (B:Nat) (hW:Ext w W) (hu:Q0z W B 233 3 encR u (X3g s.members.length))=>by
  have h:=J4u s hV hF s.ships.length (Nat.le_refl _) W B _ u (X3g s.members.length) ⟨_,_,rfl,h2.ext hW⟩ hu Q6q (fun r hr=>by
   obtain ⟨i,_,rfl⟩:=List.mem_map.1 hr;show (0:Int) <= 0 /\ (0:Int) <= _;omega) Q8n (by rw [Y2e]; omega)
  rw [Nat.sub_self] at h;exact h)
 have HFIN:Hid (Q2j s=Q1w s s.ships.length (X3g s.members.length)):=hid rfl;rw [HFIN.out];obtain ⟨L,hL⟩:∃ z,s.members.length=z:=⟨_,rfl⟩;rw [hL] at HSP h8 ⊢;obtain ⟨P,hP⟩:∃ z,Q1w s s.ships.length (X3g L)=z:=⟨_,rfl⟩;rw [hP] at HSP ⊢;clear h2 hV hF HFIN hL hP;go_enter Tryz.func94,Tryz.ntmps94;go_wp2_with fail;change Code.wp _ _ _ _ (w.alloc (.cells #[.int .i64 s.limit,.slice A s.ships.length capa,.slice M L capb] 34));obtain ⟨W,hWW,k0,HXW,eW⟩:=Q1t w 34 #[.int .i64 s.limit,.slice A s.ships.length capa,.slice M L capb];rw [hWW];clear hWW;have K0:=hid k0;clear k0
 go_loopw [3,8] (fun o i wr=>∃ (k:Nat),k <= L /\ i=.int .i64 k /\ Q0z wr W.heap.size 233 3 encR o (X3g k) /\ Ext W wr) (fun _ i _=>L - (intOf i).toNat)
 case atStart=>exact ⟨0,Nat.zero_le _,rfl,Q0z.nil _ _ _ _ _,Ext.refl _⟩
 case round =>
  obtain ⟨k,hk,rfl,hown,hx⟩:=hrel;have HX:=hid hx;have HOW:=hid hown
  by_cases hlt:k < L
  . have hkI:(k:Int) < L:=by omega
    have HLW:Hid ((X3g k).length + 1 <= 100000):=hid (by rw [Y2e]; omega)
    have HST:=hid (Y8t k);obtain ⟨zs,hzs⟩:∃ z,X3g k=z:=⟨_,rfl⟩;rw [hzs] at HOW HLW HST;obtain ⟨Ao,co,hos,-⟩:=HOW.out.shape;subst hos;have HSW:=hid HX.out.size;clear hown hx hzs
    go_light
    go_wp2_with (refine Q1z (o:=⟨some 15,_,_,_,_,_⟩) rfl ?_; refine Q2i (.tmp 11) (.tmp 14) 231 rfl W.heap.size 233 i0 (.agg #[.int .i64 0,.int .i64 0,.bool false]) 3 24 Tryz.underlying231 hi hz0 hz1 hz2 rfl (by decide) encR Q6v _ zs (⟨k,0,true⟩:Runner) rfl (HOW.out.below (Ext.box _ _)) ⟨wr.heap.size,0,none⟩ 1 rfl (Q5g (xs:=encR ⟨k,0,true⟩) (Blk.made _ _ _)) (Y0b _) HLW.out (by decide) (by have h1:=(Ext.box wr (.cells #[.int .i64 (k:Int),.int .i64 0,.bool true] 233)).size; have h2:=HSW.out; omega) ?_; intro v' w9 hown' hgrow)
    have hxx:=Ext.box wr (.cells #[.int .i64 (k:Int),.int .i64 0,.bool true] 233);have hO3:=HOW.out.below hxx;have HO9:=hid hown';have HX9:Hid (Ext W w9):=hid (Below.grown (HX.out.trans hxx) hgrow (by have:=hxx.size; have:=HSW.out; omega) (fun b hb=>(hO3.Q8q b hb).1))
    clear hxx hO3 hown' hgrow;go_wp2;go_roundw
    case rel=>exact ⟨k + 1,by omega,by go_num,by rw [HST.out]; exact HO9.out,HX9.out⟩
    case measure=>simp [intOf]; omega
  . have hke:k=L:=by omega
    subst hke;have k0:=K0.out.ext hx;have c0:=(k0).cell 0;have c1:=(k0).cell 1;have c2:=(k0).cell 2;simp only [Go.Tw.gA,Go.Tw.gB,Go.Tw.gC] at c0 c1 c2;have HC:=hid (HSP.out wr _ W.heap.size (HXW.out.trans hx) hown);have HXX:=hid (HXW.out.trans hx);clear hown hx k0;go_wp2_with (go_at_call 157; refine HC.out.mono ?_; rintro e w5 ⟨x5,qs5,rfl,h1,h2,h3,h4⟩; refine halted ?_);have H1:=hid h1;have H2:=hid h2;have H3:=hid h3;have H4:=hid h4;clear h1 h2 h3 h4;unfold Q1i;go_wp2;go_ret;exact ⟨_,qs5,rfl,Q0z.weaken H1.out HXX.out.size,H2.out,H3.out,HXX.out.trans H4.out⟩
theorem J4m (w:World) (v:Value) (s:Q0b) (hv:Q0h w v s) (hs:Q3k s) (hF:s.hist.length <= 12) :
    Calls Tryz.prog 19 #[v] w fun e w'=>e=.returned (.tuple #[.int .i64 (Z5e s),.int .i64 s.err]) /\ Ext w w':=by
 obtain ⟨a,b,rfl,h2⟩:=hv;obtain ⟨A,capa,rfl,-,-,-⟩:=h2.ships.opened;obtain ⟨B,capb,rfl,-,-,-⟩:=h2.members.opened;have H2:=hid h2;have HS:=hid hs;have HFE:=hid hF;clear h2 hs hF;go_enter Tryz.func19,Tryz.ntmps19;go_wp2_with fail;change Calls _ _ _ (w.alloc (.cells #[.int .i64 s.limit,.slice A s.ships.length capa,.slice B s.members.length capb] 34)) _;obtain ⟨W,hWW,k0,HXW,eW⟩:=Q1t w 34 #[.int .i64 s.limit,.slice A s.ships.length capa,.slice B s.members.length capb];rw [hWW];clear hWW;have K0:=hid k0;clear k0;refine (Q1u _ _ s ⟨_,_,rfl,H2.out.ext HXW.out⟩ HS.out).mono ?_;rintro e w5 ⟨rfl,hx5⟩;have HX5:=hid (HXW.out.trans hx5);have HK0:=hid (K0.out.ext hx5)
 by_cases he:s.err=0
 . have hV:=Q1b.of he
   have HPL:=hid (J6m w5 _ s ⟨_,_,rfl,H2.out.ext HX5.out⟩ hV HFE.out);have hbd:=Q6b hV s.ships.length (Nat.le_refl _) (X9l s) Q6q Q8n;have hpe:Q1w s s.ships.length (X9l s)=Q2j s:=rfl;rw [hpe] at hbd;have hple:(Q2j s).length <= 4096:=by
    have h1:2 ^ X2m s (s.ships.length - s.ships.length) (X9l s) <= 2 ^ 12:=Nat.pow_le_pow_right (by omega) (Nat.le_trans (X5i _ _) HFE.out)
    omega
   have hpn:Q2j s ≠ []:=fun hp=>by
    obtain ⟨o,ho,_⟩:=Y5s hV.toFine (fun _=>false)
    rw [hp] at ho; simp at ho
   have HMX:=hid (Z4u hpn fun x hx=>(hbd.2 x hx).w.1);have HPE:=hid hple;have HPN:Hid (0 < (Q2j s).length):=hid (List.length_pos_iff.2 hpn);have HF:Hid (Z5e s=Z5c s):=hid (if_pos he);have hne:(s.err != 0)=false:=by simp [he]
   obtain ⟨E,hE⟩:∃ E,s.err=E:=⟨_,rfl⟩;have HE0:=hid (hE.symm.trans he);have c0:=(HK0.out).cell 0;have c1:=(HK0.out).cell 1;have c2:=(HK0.out).cell 2;simp only [Go.Tw.gA,Go.Tw.gB,Go.Tw.gC] at c0 c1 c2;rw [hE] at hne ⊢;rw [HE0.out];have HER:=hid he;clear he hE hx5 hV hbd hpe hple hpn;go_wp2_with (go_at_call 94; refine HPL.out.mono ?_; rintro e w6 ⟨x6,qs6,rfl,h1,h2,h3,h4⟩; refine halted ?_);have HX6:=hid h4;have HM6:=hid h3;have HLQ:Hid (qs6.length=(Q2j s).length):=hid (by rw [<- h3,List.length_map])
   have HMP:=hid (X6n w6 _ x6 qs6 h1 h2 (by rw [HLQ.out]; have:=HPE.out; omega))
   clear h1 h2 h3 h4;unfold Q1i;go_wp2_with (go_at_call 93; refine HMP.out.mono ?_; rintro e w7 ⟨x7,rfl,h1,h2⟩; refine halted ?_);have HX7:=hid h2;have HI:=hid (Z5q w7 x7 _ (h1.ints (by rw [List.length_map,List.length_map,HLQ.out]; have:=HPE.out; omega)) (by rw [List.length_map,List.length_map,HLQ.out]; exact HPN.out) (by rw [List.length_map,List.length_map,HLQ.out]; have:=HPE.out; omega))
   rw [HM6.out,HMX.out] at HI;clear h1 h2;unfold Q1i;go_wp2_with (go_at_call 92; refine HI.out.mono ?_; rintro e w8 ⟨rfl,rfl⟩; refine halted ?_);unfold Q1i;go_wp2;go_ret2;exact ⟨by rw [HF.out,HER.out]; rfl,HX5.out.trans (HX6.out.trans HX7.out)⟩
 . have HF:Hid (Z5e s=0):=hid (if_neg he)
   have hne:(s.err != 0)=true:=by simp [he]
   obtain ⟨E,hE⟩:∃ E,s.err=E:=⟨_,rfl⟩;have HPE:=hid hE;rw [hE] at hne ⊢;clear he hE hx5;go_wp2;go_ret2;exact ⟨by rw [HF.out,HPE.out]; rfl,HX5.out⟩
end Go.Proofs
namespace Go.Proofs
open Go.RowKit Go.Tw Go.Flow
attribute [local go_sem] Oper.semAt_some
theorem Tryz.J7x (w:World):(Instr.alloc 34 true (.tuple #[])).run Tryz.prog w=.ok (.pointer (some ⟨w.heap.size,0,none⟩)) (w.alloc (.cells #[.int .i64 0,.slice none 0 0,.slice none 0 0] 34)):=by kernel_rfl
structure J6s (W w:World) (s:Q0b) (B E B2 E2:Nat) (uc xc uf xf:Value) (qc qf:List MV):Prop where
 ap:E <= B2
 lo:W.heap.size <= B
 lo2:B <= E
 c:J3h w B E uc xc s.ships qc
 cm:qc.map (·.1)=s.members
 f:J3h w B2 E2 uf xf s.ships qf
 fm:qf.map (·.1)=s.members
theorem J6s.ext {W w w':World} {s:Q0b} {B E B2 E2:Nat} {uc xc uf xf:Value} {qc qf:List MV} (h:J6s W w s B E B2 E2 uc xc uf xf qc qf) (hx:Ext w w'):J6s W w' s B E B2 E2 uc xc uf xf qc qf:=⟨h.ap,h.lo,h.lo2,h.c.ext hx,h.cm,h.f.ext hx,h.fm⟩
theorem J6s.ty {W w w':World} {s:Q0b} {B E B2 E2 b:Nat} {cs:Array Value} {uc xc uf xf:Value} {qc qf:List MV} (h:J6s W w s B E B2 E2 uc xc uf xf qc qf) (hb:Blk w b 34 cs) (ho:∀ k,k ≠ b -> w'.heap[k]?=w.heap[k]?):J6s W w' s B E B2 E2 uc xc uf xf qc qf:=⟨h.ap,h.lo,h.lo2,h.c.ty hb (by decide) (by decide) ho,h.cm,h.f.ty hb (by decide) (by decide) ho,h.fm⟩
theorem J3h.one {w:World} {B E:Nat} {uv xv:Value} {sh:List Int} {qs:List MV} {i:Int} (h:J3h w B E uv xv sh qs):∀ u ∈ (#[Value.int .i64 i,uv,xv]:Array Value).toList,u.oneCell'=true:=by
 obtain ⟨a1,a2,e1,-⟩:=h.u.shape;obtain ⟨b1,b2,e2,-⟩:=h.x.shape;subst e1 e2;intro u hu;simp only [List.mem_cons,List.not_mem_nil,or_false] at hu
 rcases hu with rfl | rfl | rfl <;> rfl
theorem J6s.start {W w:World} {s:Q0b} {B E B2 E2 gc gf:Nat} {uc xc uf xf:Value} {qc qf:List MV} (h:J6s W w s B E B2 E2 uc xc uf xf qc qf) (hx:Ext W w) (hc:Blk w gc 34 #[.int .i64 s.limit,uc,xc]) (hf:Blk w gf 34 #[.int .i64 s.limit,uf,xf]) :
    ∃ L:J8m,L.gc=gc /\ L.gf=gf /\ J5t W w s L 0 0:=⟨⟨B,E,B2,E2,gc,gf,uc,xc,uf,xf⟩,rfl,rfl,h.ap,h.lo,h.lo2,hx,⟨qc,h.c,by rw [h.cm,J5x]⟩,⟨qf,h.f,by rw [h.fm,J5x]⟩,hc,hf⟩
theorem J6d {s:Q0b} (hV:Q1b s) {g:Nat -> Int} (hg:∀ i,i < s.members.length -> 0 <= g i /\ g i <= 9):(J2o s g).err=0 /\ Z5e (J2o s g)=Z5c (J2o s g):=by
 have h:=(J3i hV hg).err;exact ⟨h,if_pos h⟩
theorem J7e {F:Array Value} (h:F.size=223):∃ u:Nat -> Value,F=#[u 0,u 1,u 2,u 3,u 4,u 5,u 6,u 7,u 8,u 9,u 10,u 11,u 12,u 13,u 14,u 15,u 16,u 17,u 18,u 19,u 20,u 21,u 22,u 23,u 24,u 25,u 26,u 27,u 28,u 29,u 30,u 31,u 32,u 33,u 34,u 35,u 36,u 37,u 38,u 39,u 40,u 41,u 42,u 43,u 44,u 45,u 46,u 47,u 48,u 49,u 50,u 51,u 52,u 53,u 54,u 55,u 56,u 57,u 58,u 59,u 60,u 61,u 62,u 63,u 64,u 65,u 66,u 67,u 68,u 69,u 70,u 71,u 72,u 73,u 74,u 75,u 76,u 77,u 78,u 79,u 80,u 81,u 82,u 83,u 84,u 85,u 86,u 87,u 88,u 89,u 90,u 91,u 92,u 93,u 94,u 95,u 96,u 97,u 98,u 99,u 100,u 101,u 102,u 103,u 104,u 105,u 106,u 107,u 108,u 109,u 110,u 111,u 112,u 113,u 114,u 115,u 116,u 117,u 118,u 119,u 120,u 121,u 122,u 123,u 124,u 125,u 126,u 127,u 128,u 129,u 130,u 131,u 132,u 133,u 134,u 135,u 136,u 137,u 138,u 139,u 140,u 141,u 142,u 143,u 144,u 145,u 146,u 147,u 148,u 149,u 150,u 151,u 152,u 153,u 154,u 155,u 156,u 157,u 158,u 159,u 160,u 161,u 162,u 163,u 164,u 165,u 166,u 167,u 168,u 169,u 170,u 171,u 172,u 173,u 174,u 175,u 176,u 177,u 178,u 179,u 180,u 181,u 182,u 183,u 184,u 185,u 186,u 187,u 188,u 189,u 190,u 191,u 192,u 193,u 194,u 195,u 196,u 197,u 198,u 199,u 200,u 201,u 202,u 203,u 204,u 205,u 206,u 207,u 208,u 209,u 210,u 211,u 212,u 213,u 214,u 215,u 216,u 217,u 218,u 219,u 220,u 221,u 222]:=by
 refine ⟨fun i=>F.getD i undef,?_⟩;have e:F=((List.range 223).map fun i=>F.getD i undef).toArray:=by
  apply Array.ext
  . simp [h]
  . intro i h1 h2
    simp [h1]
 exact e.trans (by kernel_rfl)
theorem J8s {w z0:World} {s:Q0b} {A B:Option Addr} {T M capa capb gs:Nat} {lim m:Int} (HXA:Hid (Ext w z0)) (HWD:Hid (Words z0)) (H2:Hid (Q7y z0 (.slice A T capa) (.slice B M capb) s)) (KB:Hid (Blk z0 gs 25 #[.int .i64 lim,.slice A T capa,.slice B M capb])) (HSEA:Hid (∀ W,Q7y W (.slice A T capa) (.slice B M capb) s -> Q0h W (.agg #[.int .i64 lim,.slice A T capa,.slice B M capb]) s)) (HS:Hid (Q3k s)) (HV:Hid (Q1b s)) (HE:Hid (s.err=0)) (HT:Hid (s.ships.length=T)) (HM:Hid (s.members.length=M)) (HM4:Hid (M <= 4)) (HT3:Hid (T <= 3)) (HMO:Hid (Z5c s=m))
    (F:Array Value) (hF:F.size=223) (f3:F[3]?=some (.pointer (some ⟨gs,0,none⟩))) (f7:F[7]?=some (.int .i64 m)) :
    (codeFrom Tryz.f5 20).wp Tryz.prog (bodyPost Tryz.prog Tryz.f5 (fun e w'=>e=.returned (.bool true) /\ Ext w w')) ⟨F,[]⟩ z0:=by
 obtain ⟨u,rfl⟩:=J7e hF;replace f3:u 3=_:=Option.some.inj f3;replace f7:u 7=_:=Option.some.inj f7;rw [f3,f7];clear hF f3 f7
 conv=>arg 2; whnf
 have hM0:0 < s.members.length:=HV.out.some.1;obtain ⟨B9,cb9,hB9,-,-,hcm9⟩:=H2.out.members.opened;injection hB9 with k1 k2 k3;subst k1;clear k2 k3;have HNM:Hid (∀ k,k < s.members.length -> Short (Q1h s.members k)):=hid (fun k hk=>by obtain ⟨_,_,_,_,_,_,_,_,_,_,_,_,_,_,_,hsn⟩:=hcm9 k hk; exact hsn)
 obtain ⟨bm,off,_,_,_,hBm,-⟩:=hcm9 0 hM0;subst hBm;clear hcm9 hM0;go_upto_region 20 with fail;have hdr:=(Ext.refl z0).drew;refine Flow.J8i [4,5] [.w,.w,.w,.w,.w,.w,.last,.last] [0,1,2,3,4,5,6,7] [[],[0],[],[0,1,2],[],[],[0,1,2,3,4,5],[0,1,2,3,4,5,6]] [6,7]
  [.c 0 (.agg #[.int .i64 lim,.slice A T capa,.slice (some ⟨bm,off,none⟩) M capb]),⟨fun v wz=>(fun v w'=>∃ B1 E1 uc xc qc,v 1=.agg #[.int .i64 s.limit,uc,xc] /\ J3h w' B1 E1 uc xc s.ships qc /\ qc.map (·.1)=s.members /\ z0.heap.size <= B1 /\ B1 <= E1 /\ E1 <= w'.heap.size) v wz,by rintro v x y hx ⟨B1,E1,uc,xc,qc,h1,h2,h3,h4,h5,h6⟩; exact ⟨B1,E1,uc,xc,qc,h1,h2.ext hx,h3,h4,h5,Nat.le_trans h6 hx.size⟩⟩,.c 2 (.agg #[.int .i64 lim,.slice A T capa,.slice (some ⟨bm,off,none⟩) M capb]),⟨fun v wz=>(fun v w'=>∃ B1 E1 B2 E2 uc xc uf xf qc qf,v 1=.agg #[.int .i64 s.limit,uc,xc] /\ v 3=.agg #[.int .i64 s.limit,uf,xf] /\ J6s z0 w' s B1 E1 B2 E2 uc xc uf xf qc qf) v wz,by rintro v x y hx ⟨B1,E1,B2,E2,uc,xc,uf,xf,qc,qf,h1,h2,h3⟩; exact ⟨B1,E1,B2,E2,uc,xc,uf,xf,qc,qf,h1,h2,h3.ext hx⟩⟩,⟨fun v wz=>(fun v w'=>∃ g,v 4=.pointer (some ⟨g,0,none⟩) /\ z0.heap.size <= g /\ Blk w' g 34 #[.int .i64 0,.slice none 0 0,.slice none 0 0]) v wz,by rintro v x y hx ⟨g,h1,h2,h3⟩; exact ⟨g,h1,h2,h3.ext hx⟩⟩,⟨fun v wz=>(fun v w'=>∃ g,v 5=.pointer (some ⟨g,0,none⟩) /\ z0.heap.size <= g /\ Blk w' g 34 #[.int .i64 0,.slice none 0 0,.slice none 0 0]) v wz,by rintro v x y hx ⟨g,h1,h2,h3⟩; exact ⟨g,h1,h2,h3.ext hx⟩⟩,.none,.none]
  [fun v w1 w'=>∃ g4 g5 B1 E1 B2 E2 uc xc uf xf qc qf,v 4=.pointer (some ⟨g4,0,none⟩) /\ v 5=.pointer (some ⟨g5,0,none⟩) /\ z0.heap.size <= g4 /\ z0.heap.size <= g5 /\ J6s z0 w' s B1 E1 B2 E2 uc xc uf xf qc qf /\ Below z0.heap.size w1 w' /\ Blk w' g4 34 #[.int .i64 s.limit,uc,xc] /\ (∃ cs,Blk w' g5 34 cs /\ cs.size=3) /\ v 3=.agg #[.int .i64 s.limit,uf,xf],fun v w1 w'=>∃ g4 g5 B1 E1 B2 E2 uc xc uf xf qc qf,v 4=.pointer (some ⟨g4,0,none⟩) /\ v 5=.pointer (some ⟨g5,0,none⟩) /\ J6s z0 w' s B1 E1 B2 E2 uc xc uf xf qc qf /\ Below z0.heap.size w1 w' /\ Blk w' g5 34 #[.int .i64 s.limit,uf,xf] /\ (v 4 ≠ v 5 -> Blk w' g4 34 #[.int .i64 s.limit,uc,xc])] (by kernel_rfl) rfl (by kernel_rfl) rfl ⟨?g0,?g1,?g2,?g3,?g4,?g5,?g6,?g7,trivial⟩ ?made ?post
 case made =>
  intro j hj o ho;simp only [List.mem_cons,List.not_mem_nil,or_false] at hj
  rcases hj with rfl | rfl
  all_goals (cases ho; first | exact Flow.J7l Tryz.J7x rfl rfl)
 case g0 | g2=>
  intro v w1 hx;intro bb hbb;intro K2 hK2;have o1:bb.eval (.tmp 3)=.pointer (some ⟨gs,0,none⟩):=by rw [hbb]; dsimp only; (try simp (discharger:=decide) only [eval_put_ne]); rfl
  exact Q0p (.tmp 3) _ rfl Tryz.J8o Tryz.J7y o1 (KB.out.ext (hdr.trans hx)) rfl (hK2 _ _ (Ext.refl _) rfl)
 case g1=>
  intro v w1 hx;(repeat intro (zq:v _=_));intro bb hbb;subst hbb;intro K2 hK2;go_simp;refine Q0e (J5o w1 _ s (HSEA.out _ (H2.out.ext (hdr.trans hx))) HS.out) ?_;rintro e w2 ⟨uc,xc,qc,rfl,hg,hm,hx2⟩;exact ⟨_,rfl,hK2 _ _ hx2 ⟨_,_,uc,xc,qc,rfl,hg,hm,(hdr.trans hx).size,hx2.size,Nat.le_refl _⟩⟩
 case g3=>
  intro v w1 hx (q0:v 0=_) (q1:(fun v w'=>∃ B1 E1 uc xc qc,v 1=.agg #[.int .i64 s.limit,uc,xc] /\ J3h w' B1 E1 uc xc s.ships qc /\ qc.map (·.1)=s.members /\ z0.heap.size <= B1 /\ B1 <= E1 /\ E1 <= w'.heap.size) v w1) (q2:v 2=_);intro bb hbb;subst hbb;intro K2 hK2;obtain ⟨B1,E1,uc,xc,qc,h1,h2,h3,h4,h5,h6⟩:=q1;go_simp;refine Q0e (J5o w1 _ s (HSEA.out _ (H2.out.ext (hdr.trans hx))) HS.out) ?_;rintro e w2 ⟨uf,xf,qf,rfl,hg,hm,hx2⟩;exact ⟨_,rfl,hK2 _ _ hx2 ⟨B1,E1,w1.heap.size,w2.heap.size,uc,xc,uf,xf,qc,qf,h1,rfl,h6,h4,h5,h2.ext hx2,h3,hg,hm⟩⟩
 case g4 | g5=>
  intro v w1 hx;intro bb hbb;subst hbb;intro K hK;go_simp;exact hK _ _ (Ext.box _ _) ⟨_,rfl,(hdr.trans hx).size,Blk.made _ _ _⟩
 case g6=>
  intro v w1 hx (q0:v 0=_) _ (q2:v 2=_) (q3:(fun v w'=>∃ B1 E1 B2 E2 uc xc uf xf qc qf,v 1=.agg #[.int .i64 s.limit,uc,xc] /\ v 3=.agg #[.int .i64 s.limit,uf,xf] /\ J6s z0 w' s B1 E1 B2 E2 uc xc uf xf qc qf) v w1) (q4:(fun v w'=>∃ g,v 4=.pointer (some ⟨g,0,none⟩) /\ z0.heap.size <= g /\ Blk w' g 34 #[.int .i64 0,.slice none 0 0,.slice none 0 0]) v w1) (q5:(fun v w'=>∃ g,v 5=.pointer (some ⟨g,0,none⟩) /\ z0.heap.size <= g /\ Blk w' g 34 #[.int .i64 0,.slice none 0 0,.slice none 0 0]) v w1);intro wl hT;obtain rfl:wl=w1:=hT;intro bb hbb;intro K hK;obtain ⟨B1,E1,B2,E2,uc,xc,uf,xf,qc,qf,h1,h2,h3⟩:=q3;obtain ⟨g4,hg4,hl4,hb4⟩:=q4;obtain ⟨g5,hg5,hl5,hb5⟩:=q5;have o1:bb.eval (.tmp 20)=.pointer (some ⟨g4,0,none⟩):=by rw [hbb]; dsimp only; (try simp (discharger:=decide) only [eval_put_ne]); rw [Q0a (by simp only [size_put]; exact (by decide:20 < 223))]; exact hg4
  have o2:bb.eval (.tmp 134)=.agg #[.int .i64 s.limit,uc,xc]:=by rw [hbb]; dsimp only; (try simp (discharger:=decide) only [eval_put_ne]); rw [Q0a (by simp only [size_put]; exact (by decide:134 < 223))]; exact h1
  refine Q2b (.tmp 20) (.tmp 134) _ rfl Tryz.X3r o1 o2 hb4 rfl rfl h3.c.one (fun vv w9 hb hl ho=>hK _ _ ?_);refine ⟨g4,g5,B1,E1,B2,E2,uc,xc,uf,xf,qc,qf,hg4,hg5,hl4,hl5,h3.ty hb4 ho,hl _ hl4,hb,?_,h2⟩
  by_cases e:g5=g4
  . subst e; exact ⟨_,hb,rfl⟩
  . exact ⟨_,J3l hb5 (ho _ e),rfl⟩
 case g7=>
  intro v w1 hx (q0:v 0=_) _ (q2:v 2=_) _ _ _;intro wl hT;replace hT:(fun v w1 w'=>∃ g4 g5 B1 E1 B2 E2 uc xc uf xf qc qf,v 4=.pointer (some ⟨g4,0,none⟩) /\ v 5=.pointer (some ⟨g5,0,none⟩) /\ z0.heap.size <= g4 /\ z0.heap.size <= g5 /\ J6s z0 w' s B1 E1 B2 E2 uc xc uf xf qc qf /\ Below z0.heap.size w1 w' /\ Blk w' g4 34 #[.int .i64 s.limit,uc,xc] /\ (∃ cs,Blk w' g5 34 cs /\ cs.size=3) /\ v 3=.agg #[.int .i64 s.limit,uf,xf]) v w1 wl:=hT;intro bb hbb;intro K hK;obtain ⟨g4,g5,B1,E1,B2,E2,uc,xc,uf,xf,qc,qf,hg4,hg5,hl4,hl5,h3,hbl,hb4,⟨cs5,hb5,hc5⟩,h2⟩:=hT;have o1:bb.eval (.tmp 21)=.pointer (some ⟨g5,0,none⟩):=by rw [hbb]; dsimp only; (try simp only [J4g]); rw [Q0a (by simp only [size_put]; exact (by decide:21 < 223))]; exact hg5
  have o2:bb.eval (.tmp 136)=.agg #[.int .i64 s.limit,uf,xf]:=by rw [hbb]; dsimp only; (try simp (discharger:=decide) only [eval_put_ne,J4g]); rw [Q0a (by simp only [size_put]; exact (by decide:136 < 223))]; exact h2
  refine Q2b (.tmp 21) (.tmp 136) _ rfl Tryz.X3r o1 o2 hb5 hc5 rfl h3.f.one (fun vv w9 hb hl ho=>hK _ _ ?_);exact ⟨g4,g5,B1,E1,B2,E2,uc,xc,uf,xf,qc,qf,hg4,hg5,h3.ty hb5 ho,Below.trans hbl (hl _ hl5),hb,fun hne=>J3l hb4 (ho _ (fun e=>hne (by show v 4=v 5; rw [hg4,hg5,e])))⟩
 case post =>
  intro v w1 hx hnw (q0:v 0=_) (q1:(fun v w'=>∃ B1 E1 uc xc qc,v 1=.agg #[.int .i64 s.limit,uc,xc] /\ J3h w' B1 E1 uc xc s.ships qc /\ qc.map (·.1)=s.members /\ z0.heap.size <= B1 /\ B1 <= E1 /\ E1 <= w'.heap.size) v w1) (q2:v 2=_) (q3:(fun v w'=>∃ B1 E1 B2 E2 uc xc uf xf qc qf,v 1=.agg #[.int .i64 s.limit,uc,xc] /\ v 3=.agg #[.int .i64 s.limit,uf,xf] /\ J6s z0 w' s B1 E1 B2 E2 uc xc uf xf qc qf) v w1) (q4:(fun v w'=>∃ g,v 4=.pointer (some ⟨g,0,none⟩) /\ z0.heap.size <= g /\ Blk w' g 34 #[.int .i64 0,.slice none 0 0,.slice none 0 0]) v w1) (q5:(fun v w'=>∃ g,v 5=.pointer (some ⟨g,0,none⟩) /\ z0.heap.size <= g /\ Blk w' g 34 #[.int .i64 0,.slice none 0 0,.slice none 0 0]) v w1);intro w2 hE;replace hE:(fun v w1 w'=>∃ g4 g5 B1 E1 B2 E2 uc xc uf xf qc qf,v 4=.pointer (some ⟨g4,0,none⟩) /\ v 5=.pointer (some ⟨g5,0,none⟩) /\ J6s z0 w' s B1 E1 B2 E2 uc xc uf xf qc qf /\ Below z0.heap.size w1 w' /\ Blk w' g5 34 #[.int .i64 s.limit,uf,xf] /\ (v 4 ≠ v 5 -> Blk w' g4 34 #[.int .i64 s.limit,uc,xc])) v w1 w2:=hE;simp only [Flow.acts,Act.put];go_simp;obtain ⟨gc,gf,B1,E1,B2,E2,uc,xc,uf,xf,qc,qf,hg4,hg5,h3,hbl,hb5,hb4⟩:=hE;have hne:v 4 ≠ v 5:=hnw 4 (by decide) 5 (by decide) (by decide)
  replace hb4:=hb4 hne;have hxd:Ext z0 w2:=Below.trans (hdr.trans hx) hbl;obtain ⟨L,hL1,hL2,hL⟩:=h3.start hxd hb4 hb5;subst hL1;subst hL2;rw [hg4,hg5];obtain ⟨z1,rfl⟩:∃ X,X=w2:=⟨_,rfl⟩;have FIN:=hid hL;have KB1:=hid (KB.out.ext hxd);clear hdr hx q0 q1 q2 q3 q4 q5 hbl hb4 hb5 h3 hxd hnw hne hg4 hg5 hL;have s0:=KB1.out.cell 0;have s1:=KB1.out.cell 1;have s2:=KB1.out.cell 2;simp only [Go.Tw.gA,Go.Tw.gB,Go.Tw.gC] at s0 s1 s2;go_wp2_with fail;clear s0 s1 s2
  go_loopw [22,140] (fun sv iv wr=>∃ k:Nat,k <= M /\ iv=.int .i64 k /\ sv=.int .i64 (J2m (J5l s) k) /\ J5t z0 wr s L k 0) (fun _ iv _=>M - (intOf iv).toNat)
  case atStart=>exact ⟨0,Nat.zero_le _,rfl,rfl,FIN.out⟩
  case round =>
   clear FIN KB1;obtain ⟨k,hk,rfl,rfl,hfr⟩:=hrel;obtain ⟨z2,rfl⟩:∃ Z,Z=wr:=⟨_,rfl⟩;have FIN:=hid hfr;clear hfr
   by_cases hlt:k < M
   . skip
     have hkI:(k:Int) < (M:Int):=by omega
     have HWK:Hid (wrap64 ((k:Int) + 1)=(k:Int) + 1):=hid (by have:=HV.out.some.2; have:=HM.out; unfold wrap64; omega)
     have HKM:=hid hlt;go_upto_if 141 with fail
     first | refine (J2v H2 KB FIN HSEA HS HV HE HT HM HKM HMO ?_) | (go_step; (first | refine (J2v H2 KB FIN HSEA HS HV HE HT HM HKM HMO ?_) | (go_step; (first | refine (J2v H2 KB FIN HSEA HS HV HE HT HM HKM HMO ?_) | (go_step; (first | refine (J2v H2 KB FIN HSEA HS HV HE HT HM HKM HMO ?_) | (go_step; (first | refine (J2v H2 KB FIN HSEA HS HV HE HT HM HKM HMO ?_) | (go_step; (first | refine (J2v H2 KB FIN HSEA HS HV HE HT HM HKM HMO ?_) | (go_step; (first | refine (J2v H2 KB FIN HSEA HS HV HE HT HM HKM HMO ?_) | (go_step; (first | refine (J2v H2 KB FIN HSEA HS HV HE HT HM HKM HMO ?_) | (go_step; (refine (J2v H2 KB FIN HSEA HS HV HE HT HM HKM HMO ?_)))))))))))))))))
     refine hid ?_
     intros
     rename_i w9 hf9
     have FIN9:=hid hf9;clear hf9;go_wp2;go_roundw
     case rel=>exact ⟨k + 1,by have:=HKM.out; omega,by rw [HWK.out]; go_num,rfl,FIN9.out⟩
     case measure=>have:=HKM.out; rw [HWK.out]; simp [intOf]; omega
   . skip
     have hkI:¬ (k:Int) < (M:Int):=by omega
     have hke:k=M:=by omega
     subst hke;have hdn:=J5t.done (by rw [HM.out]; exact FIN.out) HS.out HNM.out
     have FC:=hid hdn.1;have FF:=hid hdn.2;have KC:=hid FIN.out.bc;have KF:=hid FIN.out.bf;have hx0:=FIN.out.ex;replace HXA:=hid (HXA.out.trans hx0);replace HWD:=hid (HWD.out.ext hx0);clear hdn hx0 hlt hk FIN H2 KB;have HR1:=hid (J6d HV.out (g:=fun _=>0) (fun _ _=>⟨by decide,by decide⟩))
     have HR2:=hid (J6d HV.out (g:=fun i=>(i:Int)) (fun i hi=>⟨by omega,by have:=HM.out; have:=HM4.out; omega⟩))
     have HH:Hid (∀ g,(J2o s g).hist.length <= 12):=hid (fun g=>J7t (by rw [HM.out]; exact HM4.out) (by rw [HT.out]; exact HT3.out) g)
     have HSV:Hid (J2m (J5l s) k=Z5c (J2o s fun i=>(i:Int))):=hid (by rw [<- HM.out]; exact J8v HV.out (by rw [HM.out]; have:=HM4.out; omega))
     have hle1:Z5c (J2o s fun _=>0) <= m:=by rw [<- HMO.out]; exact J6t HV.out
     have hle2:m <= Z5c (J2o s fun i=>(i:Int)):=by rw [<- HMO.out]; exact (J5v HV.out (by rw [HM.out]; have:=HM4.out; omega)).2
     rw [HSV.out];obtain ⟨am,ham⟩:∃ z,Z5c (J2o s fun _=>0)=z:=⟨_,rfl⟩
     obtain ⟨fm,hfm⟩:∃ z,Z5c (J2o s fun i=>(i:Int))=z:=⟨_,rfl⟩
     rw [ham] at hle1 HR1;rw [hfm] at hle2 HR2 ⊢;clear HSV ham hfm;go_wp2_with (refine Q7z rfl _ _ rfl Tryz.Z3u Tryz.X3r rfl KC.out rfl ?_);refine (J4m _ _ _ FC.out (J2y HS.out _) (HH.out _)).mono ?_;rintro e z3 ⟨rfl,hx⟩;have hxx:Ext z2 z3:=hx;replace HXA:=hid (HXA.out.trans hxx);clear FC;replace HWD:=hid (HWD.out.ext hxx);replace FF:=hid (FF.out.ext hxx);replace KC:=hid (KC.out.ext hxx);replace KF:=hid (KF.out.ext hxx);clear hx hxx;rw [HR1.out.1,HR1.out.2];go_wp2_with (refine Q7z rfl _ _ rfl Tryz.Z3u Tryz.X3r rfl KF.out rfl ?_);refine (J4m _ _ _ FF.out (J2y HS.out _) (HH.out _)).mono ?_;rintro e z4 ⟨rfl,hx⟩;have hxx:Ext z3 z4:=hx;replace HXA:=hid (HXA.out.trans hxx);clear FF;replace HWD:=hid (HWD.out.ext hxx);replace KC:=hid (KC.out.ext hxx);replace KF:=hid (KF.out.ext hxx);clear hx hxx;rw [HR2.out.1,HR2.out.2];go_wp2_with fail;refine (J0d _ HWD.out).mono ?_;rintro e z5 ⟨rfl,hx⟩;have hxx:Ext z4 z5:=hx;replace HXA:=hid (HXA.out.trans hxx);replace HWD:=hid (HWD.out.ext hxx);replace KC:=hid (KC.out.ext hxx);replace KF:=hid (KF.out.ext hxx);clear hx hxx;go_wp2;go_ret;exact ⟨rfl,HXA.out⟩
end Go.Proofs
