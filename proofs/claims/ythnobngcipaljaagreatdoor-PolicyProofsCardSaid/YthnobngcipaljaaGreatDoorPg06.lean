/- Part of a proof. -/
import Derived.Scope
import Derived.WalkMore
import Derived.OwnWalk
import Derived.Test.YthnobngcipaljaaGreatDoorPg05
set_option maxRecDepth 1000000
set_option maxHeartbeats 64000000
set_option linter.unusedVariables false
set_option linter.unusedSimpArgs false
set_option linter.constructorNameAsVariable false
open Go.Lib (hid)
namespace Go.Proofs
open Go.RowKit Go.Tw Go.ChangeShapes Go.WideShapes Go.Deep Tryz
section
variable {H:Type} {enc:TypeId × Value -> H} {W:World}
theorem Tryz.K2o:prog.cellsOf 153=2:=by kernel_rfl
theorem Tryz.K2p:prog.bytesOf 153=32:=by kernel_rfl
theorem Tryz.K2i:prog.cellsOf 47=1:=by kernel_rfl
theorem Tryz.K1g:prog.cellsOf 118=2:=by kernel_rfl
theorem Tryz.K2l:prog.cellsOf 121=4:=by kernel_rfl
theorem Y8k {fuel:Nat} {v:Value} {y:DataW H × List MemPlace} (h:DataW.trod enc prog W 0 (fun _=>true) true fuel 119 [v]=some y) (hw:Q9z 119 y.1):∃ l,Q1q W v l :=
 Q7z (α:=Grp) underlying119 K2o (by decide) K2p (by decide) (fun cs y n hl h hw=>by
  obtain ⟨y0,y1,m,rfl,_,h0,h1⟩:=trod_struct2 underlying153 h
  match cs,hl with
  | [c0,c1],_ =>
    have T1:∀ x ∈ DataW.weightsEach prog [22,3] [y0.1,y1.1],x <= 140737488351232:=fun x hx=>hw x (by simpa [DataW.weights,underlying153] using hx)
    obtain ⟨w0,_⟩:=Q2n T1;have Aw:DataW.trod enc prog W 0 (fun _=>true) true m 22 [c0]=some y0:=by simpa [Tryz.cI,Tryz.c3] using h0
    have Oy:DataW.trod enc prog W 0 (fun _=>true) true m 3 [c1]=some y1:=by simpa [Tryz.cI,Tryz.c3] using h1
    obtain ⟨l,hl⟩:=Q4p Aw w0;obtain ⟨z,rfl⟩:=int_of_trod Oy;exact ⟨⟨l,z⟩,hl,rfl⟩)
  (fun _ c c' x hc h=>⟨by rw [<- hc 0 (by decide)]; exact h.1,by rw [<- hc 1 (by decide)]; exact h.2⟩) h hw
theorem Y5f {b0:Nat} {v:Value} {d:DataW H} {ps:List MemPlace} (hv:Value.okWide prog W .any b0 121 v) (h:DataW.Trod enc prog W 0 (fun _=>true) true 121 v d ps) (hw:Q9z 121 d) :
    ∃ (n:Int) (a b c:Value) (p:List Rul) (l:List Int) (g:List Grp),v=.agg #[.int .i64 n,a,b,c] /\ Q1d W a p /\ Q0e W b l /\ Q1q W c g:=by
 obtain ⟨cs,rfl,pq⟩:=okWide_struct underlying121 hv;rw [K2l] at pq;obtain ⟨c0,c1,c2,c3,rfl⟩:∃ a b c d,cs=#[a,b,c,d]:=by
  obtain ⟨l⟩:=cs
  match l,pq with
  | [a,b,c,d],_=>exact ⟨a,b,c,d,rfl⟩
 obtain ⟨fuel,hf⟩:=h;obtain ⟨y0,y1,y2,m,hx,_,h0,h1,h2⟩:=trod_struct3 underlying121 hf;simp only [Prod.mk.injEq] at hx;obtain ⟨rfl,_⟩:=hx;have T1:∀ x ∈ DataW.weightsEach prog [3,118,119] [y0.1,y1.1,y2.1],x <= 140737488351232:=fun x hx=>hw x (by simpa [DataW.weights,underlying121] using hx)
 obtain ⟨_,r0⟩:=Q2n T1;obtain ⟨w1,r1⟩:=Q2n r0;obtain ⟨w2,_⟩:=Q2n r1;have e2:prog.cellsOf 119=1:=by kernel_rfl
 have Aw:DataW.trod enc prog W 0 (fun _=>true) true m 3 [c0]=some y0:=by simpa [Tryz.c3,K1g,e2,Value.cells] using h0
 have Oy:DataW.trod enc prog W 0 (fun _=>true) true m 118 [c1,c2]=some y1:=by simpa [Tryz.c3,K1g,e2,Value.cells] using h1
 have b6:DataW.trod enc prog W 0 (fun _=>true) true m 119 [c3]=some y2:=by simpa [Tryz.c3,K1g,e2,Value.cells] using h2
 obtain ⟨z,rfl⟩:=int_of_trod Aw;obtain ⟨g,hg⟩:=Y8k b6 w2;obtain ⟨x0,x1,m2,rfl,_,k0,k1⟩:=trod_struct2 underlying118 Oy;have ya:∀ x ∈ DataW.weightsEach prog [47,22] [x0.1,x1.1],x <= 140737488351232:=fun x hx=>w1 x (by simpa [DataW.weights,underlying118] using hx)
 obtain ⟨v0,s0⟩:=Q2n ya;obtain ⟨v1,_⟩:=Q2n s0;have k0':DataW.trod enc prog W 0 (fun _=>true) true m2 47 [c1]=some x0:=by simpa [K2i,Tryz.cI,Value.cells] using k0
 have k1':DataW.trod enc prog W 0 (fun _=>true) true m2 22 [c2]=some x1:=by simpa [K2i,Tryz.cI,Value.cells] using k1
 obtain ⟨l,hl⟩:=Q4p k1' v1;obtain ⟨u0,m3,rfl,_,j0⟩:=trod_struct1 underlying47 k0';have Fm:∀ x ∈ DataW.weightsEach prog [45] [u0.1],x <= 140737488351232:=fun x hx=>v0 x (by simpa [DataW.weights,underlying47] using hx)
 obtain ⟨t0,_⟩:=Q2n Fm;have e3:prog.cellsOf 45=1:=by kernel_rfl
 have j0':DataW.trod enc prog W 0 (fun _=>true) true m3 45 [c1]=some u0:=by simpa [e3,Value.cells] using j0
 obtain ⟨p,hp⟩:=Y6q j0' t0;exact ⟨z,c1,c2,c3,p,l,g,rfl,hp,hl,hg⟩
end
end Go.Proofs
namespace Go.Proofs
open Go.RowKit Go.Tw Go.Flow Tryz
attribute [local go_sem] Oper.semAt_some
theorem Y4y (w:World) (u v:Value) (a b:List Int) (hu:Q0e w u a) (hv:Q0e w v b) :
    Calls prog 143 #[u,v] w fun e w'=>e=.returned (.bool (decide (a=b))) /\ Ext w w':=by
 obtain ⟨A,Uq,rfl,Ov,Mw,Vz⟩:=hu.opened;obtain ⟨B,Wq,rfl,Nv,jz,Rj⟩:=hv.opened;clear hu hv;go_enter func143,ntmps143
 by_cases hl:a.length=b.length
 . have hne:((a.length:Int) != (b.length:Int))=false:=by simp [hl]
   go_wp2
   go_loopw [13] (fun i wr=>∃ k:Nat,k <= a.length /\ i=.int .i64 k /\ decide (a.drop k=b.drop k)=decide (a=b) /\ Ext w wr) (fun i _=>a.length - (intOf i).toNat)
   case atStart=>exact ⟨0,Nat.zero_le _,rfl,rfl,Ext.refl _⟩
   case round =>
    obtain ⟨k,hk,rfl,hr,hx⟩:=hrel;have HR:=hid hr; clear hr
    by_cases Tq:k < a.length
    . have Mx:k < b.length:=by omega
      obtain ⟨b1,off1,rfl,Rx⟩:=Vz k Tq;obtain ⟨b2,off2,rfl,Xx⟩:=Rj k Mx;replace Rx:=hx.cell Rx;replace Xx:=hx.cell Xx;have N1:=hid (Q2v Tq);have Fy:=hid (Q2v Mx);clear Vz Rj
      by_cases h0:ix a k=ix b k
      . have Yj:(ix a k != ix b k)=false:=by simp [h0]
        have H0:=hid h0; clear h0;go_wp2
        go_quiet (fail)
        all_goals go_wp2
        go_roundw
        case rel=>exact ⟨k + 1,by omega,by go_num,by rw [<- HR.out,N1.out,Fy.out,X0c H0.out],hx.drewN _⟩
        case measure=>simp [intOf]; omega
      . have Yj:(ix a k != ix b k)=true:=by simp [h0]
        have H0:=hid h0; clear h0;go_wp2
        go_quiet (fail)
        all_goals go_wp2
        go_ret;exact ⟨Q0x (by rw [<- HR.out,N1.out,Fy.out,X0b H0.out]),hx.drewN _⟩
    . clear Vz Rj
      go_wp2;go_ret;exact ⟨Q0x (by rw [<- HR.out,List.drop_eq_nil_of_le (by omega),List.drop_eq_nil_of_le (by omega)]; rfl),hx⟩
 . have hne:((a.length:Int) != (b.length:Int))=true:=by simp; omega
   have HL:Hid (decide (a=b)=false):=hid (decide_eq_false (fun h=>hl (by rw [h])))
   clear hl Vz Rj;go_wp2;go_ret;exact ⟨Q0x (by rw [HL.out]),Ext.refl _⟩
theorem X6c (w:World) (v u:Value) (s:Q0b) (l:List Int) (hv:Q0g w v s) (hu:Q0e w u l) (hs:Q0w s) (Jk:∀ x ∈ l,0 <= x /\ x < s.members.length) (lx:l.length <= 4096) :
    Calls prog 134 #[v,u] w fun e w'=>e=.returned (.int .i64 (Q1u s l)) /\ Ext w w':=by
 obtain ⟨a,b,rfl,h2⟩:=hv;obtain ⟨A,Uq,rfl,-,-,-⟩:=h2.ships.opened;obtain ⟨B,Wq,rfl,Nv,jz,Rj⟩:=h2.members.opened;obtain ⟨U,Qq,rfl,hl,Kq,hc⟩:=hu.opened;clear hu h2;have E4:=Ext.box w (.cells #[.int .i64 s.limit,.slice A s.ships.length Uq,.slice B s.members.length Wq] 34);have k0:=Blk.made w 34 #[.int .i64 s.limit,.slice A s.ships.length Uq,.slice B s.members.length Wq];have c2:=k0.cell 2;simp only [Go.Tw.gA,Go.Tw.gB,Go.Tw.gC] at c2;clear k0;have HX:=hid E4; clear E4;have HS:=hid hs; clear hs;have jg:=hid Jk; clear Jk;have HM:Hid (s.members.length <= 8):=HS.out.some.2;go_enter func134,ntmps134;go_wp2
 go_loopw [5,10] (fun n i wr=>∃ (k:Nat) (m:Int),k <= l.length /\ i=.int .i64 k /\ n=.int .i64 m /\ m=Q4k s l k /\ Ext (w.alloc (.cells #[.int .i64 s.limit,.slice A s.ships.length Uq,.slice B s.members.length Wq] 34)) wr) (fun _ i _=>l.length - (intOf i).toNat)
 case atStart=>exact ⟨0,0,Nat.zero_le _,rfl,rfl,rfl,Ext.refl _⟩
 case round =>
  obtain ⟨k,m,hk,rfl,rfl,hr,hx⟩:=hrel;have HR:=hid hr; clear hr;replace c2:=hx.cell c2
  by_cases Tq:k < l.length
  . obtain ⟨b,off,rfl,Xq⟩:=hc k Tq
    have h3:=jg.out _ (List.getElem_mem Tq);rw [<- Q5i Tq] at h3;obtain ⟨j,hj⟩:∃ j:Nat,ix l k=j:=⟨(ix l k).toNat,by omega⟩
    obtain ⟨b',off',x,y,z,rfl,-,-,Tx,-⟩:=Rj j (by omega)
    replace Xq:=(HX.out.trans hx).cell Xq;replace Tx:=(HX.out.trans hx).cell Tx;have ux:=X2z HS.out jg.out (k + 1) (by omega)
    have Tg:Q4k s l (k + 1)=m + Q0o s.members j:=by rw [Q9j Tq,HR.out,hj,Int.toNat_natCast]
    rw [Tg] at ux;rw [hj] at Xq h3;have Ey:=hid Tg; clear Tg;have i1:(k:Int) < l.length:=by omega
    have i0:(j:Int) < s.members.length:=h3.2;have i2:0 <= m + Q0o s.members j:=ux.1;have i3:m + Q0o s.members j <= 10000000:=by omega
    clear ux h3 hj hc Rj;go_wp2;go_roundw
    case rel=>exact ⟨k + 1,m + Q0o s.members j,by omega,by go_num,by go_num,Ey.out.symm,hx⟩
    case measure=>simp [intOf]; omega
  . clear hc Rj
    go_wp2;go_ret;exact ⟨Q1c (by rw [HR.out,show k=l.length by omega,Q4k,List.take_length]),HX.out.trans hx⟩
def X3f (s:Q0b) (n:Int):Bool:=decide (n < 0) || decide ((s.members.length:Int) <= n)
theorem Q2j (w:World) (v:Value) (s:Q0b) (n:Int) (hv:Q0g w v s) :
    Calls prog 111 #[v,.int .i64 n] w fun e w'=>e=.returned (.int .i64 (Q0u (X3f s n) 10)) /\ Ext w w':=by
 obtain ⟨a,b,rfl,h2⟩:=hv;obtain ⟨A,Uq,rfl,-,-,-⟩:=h2.ships.opened;obtain ⟨B,Wq,rfl,-,-,-⟩:=h2.members.opened;have k0:=Blk.made w 34 #[.int .i64 s.limit,.slice A s.ships.length Uq,.slice B s.members.length Wq];have HX:=hid (Ext.box w (.cells #[.int .i64 s.limit,.slice A s.ships.length Uq,.slice B s.members.length Wq] 34));have c2:=k0.cell 2;simp only [Go.Tw.gA,Go.Tw.gB,Go.Tw.gC] at c2;clear h2 k0;go_enter func111,ntmps111
 by_cases h0:n < 0
 . have HQ:Hid (X3f s n=true):=hid (by unfold X3f; simp [h0])
   go_wp2_with (refine (Q2s _ _ _).mono ?_; rintro e w5 ⟨rfl,rfl⟩);go_ret;exact ⟨Q1c (by rw [HQ.out]),HX.out⟩
 . obtain ⟨q,hq⟩:∃ q,decide ((s.members.length:Int) <= n)=q:=⟨_,rfl⟩
   have HQ:Hid (X3f s n=q):=hid (by unfold X3f; rw [hq]; simp [h0])
   go_wp2_with (refine (Q2s _ _ _).mono ?_; rintro e w5 ⟨rfl,rfl⟩);go_ret;exact ⟨Q1c (by rw [HQ.out]),HX.out⟩
def Y8o (s:Q0b) (l:List Int) (i:Nat):Int:=if ix l i < 0 ∨ (s.members.length:Int) <= ix l i then 10 else if 0 < i /\ ix l i <= ix l (i - 1) then 11 else 0
theorem Y7t (s:Q0b) (l:List Int) (h:¬ 8 < l.length):Q1z s l=Q3m (Y8o s l) l.length 0:=by
 unfold Q1z; rw [if_neg h]; rfl
theorem Z3l (s:Q0b) (l:List Int) (i:Nat):Q0h [Q0u (X3f s (ix l i)) 10,Q0u (decide (0 < i) && decide (ix l i <= ix l (i - 1))) 11]=Y8o s l i:=by
 unfold Y8o X3f Q0u Q0h Q0h Q0h
 by_cases h0:ix l i < 0 <;> by_cases h1:(s.members.length:Int) <= ix l i <;> by_cases h2:0 < i <;> by_cases h3:ix l i <= ix l (i - 1) <;> simp [h0,h1,h2,h3]
theorem Tryz.X8b (w:World):(isAgg 34).run prog w=.ok true w:=by kernel_rfl
theorem Tryz.Q9q (w:World):(sizeOf 34).run prog w=.ok 3 w:=by kernel_rfl
theorem X7g (w:World) (v u:Value) (s:Q0b) (l:List Int) (hv:Q0g w v s) (hu:Q0e w u l) :
    Calls prog 133 #[v,u] w fun e w'=>e=.returned (.int .i64 (Q1z s l)) /\ Ext w w':=by
 obtain ⟨a,b,rfl,h2⟩:=hv;obtain ⟨A,Uq,rfl,-,-,-⟩:=h2.ships.opened;obtain ⟨B,Wq,rfl,-,-,-⟩:=h2.members.opened;have H2:=hid h2;obtain ⟨U,Qq,rfl,hl,Kq,hc⟩:=hu.opened;have HC:=hid hc;have jw:Hid (¬ 8 < l.length -> Q1z s l=Q3m (Y8o s l) l.length 0):=hid (Y7t s l);have ua:Hid (8 < l.length -> Q1z s l=5):=hid (fun h=>by unfold Q1z; rw [if_pos h])
 have E4:=Ext.box w (.cells #[.int .i64 s.limit,.slice A s.ships.length Uq,.slice B s.members.length Wq] 34);clear h2 hu hc;go_enter func133,ntmps133
 by_cases h8:8 < l.length
 . have Em:(8:Int) < l.length:=by omega
   have HF:=hid (ua.out h8);clear h8;go_wp2;go_ret;exact ⟨Q1c HF.out.symm,E4⟩
 . have Em:¬ (8:Int) < l.length:=by omega
   have HF:=hid (jw.out h8);clear E4;go_upto_region 1 with fail;change Code.wp _ _ _ _ (w.alloc (.cells #[.int .i64 s.limit,.slice A s.ships.length Uq,.slice B s.members.length Wq] 34));obtain ⟨W,Nq,k0,Sq,eW⟩:=Q1y w 34 #[.int .i64 s.limit,.slice A s.ships.length Uq,.slice B s.members.length Wq];rw [Nq];clear Nq;have K0:=hid k0;clear k0;go_wp2
   go_loopw [13] (fun i wr=>∃ k:Nat,k <= l.length /\ i=.int .i64 k /\ Q3m (Y8o s l) l.length k=Q3m (Y8o s l) l.length 0 /\ Ext W wr) (fun i _=>l.length - (intOf i).toNat)
   case atStart=>exact ⟨0,Nat.zero_le _,rfl,rfl,Ext.refl _⟩
   case round =>
    obtain ⟨k,hk,rfl,hr,hx⟩:=hrel;have HR:=hid hr;have HX:=hid hx;clear hr hx
    by_cases Tq:k < l.length
    . obtain ⟨bu,ou,rfl,rk⟩:=HC.out k Tq
      have j5:Hid (0 < k -> w.cell? ⟨bu,ou + (k - 1),none⟩=some (.int .i64 (ix l (k - 1)))):=hid (fun h=>by
       obtain ⟨b',o',he,GQ⟩:=HC.out (k - 1) (by omega)
       cases he; exact GQ)
      replace rk:=(Sq.out.trans HX.out).cell rk;have qq:=hid (Q9o (f:=Y8o s l) Tq);have Fw:=hid (Z3l s l k);obtain ⟨x,ag⟩:∃ x,ix l k=x:=⟨_,rfl⟩;obtain ⟨y,Mf⟩:∃ x,ix l (k - 1)=x:=⟨_,rfl⟩;rw [ag] at rk Fw;rw [Mf] at j5 Fw;obtain ⟨E,hE⟩:∃ x,Y8o s l k=x:=⟨_,rfl⟩;rw [hE] at qq Fw;obtain ⟨q,hq⟩:∃ q,X3f s x=q:=⟨_,rfl⟩;have HQ:=hid hq;rw [hq] at Fw;have Lj:(k:Int) < l.length:=by omega
      have kk:=K0.out.ext HX.out;have c0:=(kk).cell 0;have c1:=(kk).cell 1;have c2:=(kk).cell 2;simp only [Go.Tw.gA,Go.Tw.gB,Go.Tw.gC] at c0 c1 c2;have N8:Hid (Q0g wr (.agg #[.int .i64 s.limit,.slice A s.ships.length Uq,.slice B s.members.length Wq]) s):=hid ⟨_,_,rfl,H2.out.ext (Sq.out.trans HX.out)⟩;clear ag Mf hE hq kk
      go_light
      by_cases h0:0 < k
      . have Dm:(0:Int) < (k:Int):=by omega
        have lX:=hid (j5.out h0);have Z2:IntKind.i64.wrap ((k:Int) - 1)=(k:Int) - 1:=Q3b _ (by omega) (by omega)
        have sx:(k:Int) - 1 < l.length:=by omega
        have xG:((k:Int) - 1).toNat=k - 1:=by omega
        have UJ:1 < k -> max (0:Int) ((k:Int) - 1)=(k:Int) - 1:=fun _=>by omega
        have TJ:Hid (Q0h [Q0u q 10,Q0u (decide (x <= y)) 11]=E):=hid (by rw [<- Fw.out]; simp [h0])
        by_cases h1:1 < k
        . have Cm:(1:Int) < (k:Int):=by omega
          have Qr:=UJ h1;clear UJ;have Bm:(0:Int) <= (k:Int) - 1:=by omega
          clear h0
          by_cases fx:E=0
          . have V7:(E != 0)=false:=by simp [fx]
            have HZ:=hid fx;clear fx;go_wp2_with (first | (go_at_call 111; refine (Q2j _ _ s x N8.out).mono ?_; rw [HQ.out]; rintro e w5 ⟨rfl,Cq⟩; have vq:=hid (HX.out.trans Cq); have sa:=(Sq.out.trans vq.out).cell lX.out) | (go_at_call 119; refine (Q2s _ _ _).mono ?_; rintro e w6 ⟨rfl,rfl⟩) | (go_at_call 96; refine (first_any _ _ [Q0u q 10,Q0u (decide (x <= y)) 11] (Q1v (by simp))).mono ?_; rw [TJ.out]; rintro e w7 ⟨rfl,rfl⟩))
            go_roundw
            case rel=>exact ⟨k + 1,by omega,by go_num,by rw [<- HR.out,qq.out,if_pos HZ.out],vq.out.trans (Ext.box _ _)⟩
            case measure=>simp [intOf]; omega
          . have V7:(E != 0)=true:=by simp [fx]
            have HZ:=hid fx;clear fx;go_wp2_with (first | (go_at_call 111; refine (Q2j _ _ s x N8.out).mono ?_; rw [HQ.out]; rintro e w5 ⟨rfl,Cq⟩; have vq:=hid (HX.out.trans Cq); have sa:=(Sq.out.trans vq.out).cell lX.out) | (go_at_call 119; refine (Q2s _ _ _).mono ?_; rintro e w6 ⟨rfl,rfl⟩) | (go_at_call 96; refine (first_any _ _ [Q0u q 10,Q0u (decide (x <= y)) 11] (Q1v (by simp))).mono ?_; rw [TJ.out]; rintro e w7 ⟨rfl,rfl⟩))
            go_ret;exact ⟨Q1c (by rw [HF.out,<- HR.out,qq.out,if_neg HZ.out]),Sq.out.trans (vq.out.trans (Ext.box _ _))⟩
        . have ra:k=1:=by omega
          clear UJ;subst ra;replace lX:Hid (w.cell? ⟨bu,ou,none⟩=some (.int .i64 y)):=hid lX.out;clear h0 h1
          by_cases fx:E=0
          . have V7:(E != 0)=false:=by simp [fx]
            have HZ:=hid fx;clear fx;go_wp2_with (first | (go_at_call 111; refine (Q2j _ _ s x N8.out).mono ?_; rw [HQ.out]; rintro e w5 ⟨rfl,Cq⟩; have vq:=hid (HX.out.trans Cq); have sa:=(Sq.out.trans vq.out).cell lX.out) | (go_at_call 119; refine (Q2s _ _ _).mono ?_; rintro e w6 ⟨rfl,rfl⟩) | (go_at_call 96; refine (first_any _ _ [Q0u q 10,Q0u (decide (x <= y)) 11] (Q1v (by simp))).mono ?_; rw [TJ.out]; rintro e w7 ⟨rfl,rfl⟩))
            go_roundw
            case rel=>exact ⟨1 + 1,by omega,by go_num,by rw [<- HR.out,qq.out,if_pos HZ.out],vq.out.trans (Ext.box _ _)⟩
            case measure=>simp [intOf]; omega
          . have V7:(E != 0)=true:=by simp [fx]
            have HZ:=hid fx;clear fx;go_wp2_with (first | (go_at_call 111; refine (Q2j _ _ s x N8.out).mono ?_; rw [HQ.out]; rintro e w5 ⟨rfl,Cq⟩; have vq:=hid (HX.out.trans Cq); have sa:=(Sq.out.trans vq.out).cell lX.out) | (go_at_call 119; refine (Q2s _ _ _).mono ?_; rintro e w6 ⟨rfl,rfl⟩) | (go_at_call 96; refine (first_any _ _ [Q0u q 10,Q0u (decide (x <= y)) 11] (Q1v (by simp))).mono ?_; rw [TJ.out]; rintro e w7 ⟨rfl,rfl⟩))
            go_ret;exact ⟨Q1c (by rw [HF.out,<- HR.out,qq.out,if_neg HZ.out]),Sq.out.trans (vq.out.trans (Ext.box _ _))⟩
      . have vk:k=0:=by omega
        subst vk;rw [Nat.add_zero] at rk;have TJ:Hid (Q0h [Q0u q 10,Q0u false 11]=E):=hid (by rw [<- Fw.out]; simp)
        clear h0
        by_cases fx:E=0
        . have V7:(E != 0)=false:=by simp [fx]
          have HZ:=hid fx;clear fx;go_wp2_with (first | (go_at_call 111; refine (Q2j _ _ s x N8.out).mono ?_; rw [HQ.out]; rintro e w5 ⟨rfl,Cq⟩; have vq:=hid (HX.out.trans Cq)) | (go_at_call 119; refine (Q2s _ _ _).mono ?_; rintro e w6 ⟨rfl,rfl⟩) | (go_at_call 96; refine (first_any _ _ [Q0u q 10,Q0u false 11] (Q1v (by simp))).mono ?_; rw [TJ.out]; rintro e w7 ⟨rfl,rfl⟩))
          go_roundw
          case rel=>exact ⟨0 + 1,by omega,by go_num,by rw [qq.out,if_pos HZ.out],vq.out.trans (Ext.box _ _)⟩
          case measure=>simp [intOf]; omega
        . have V7:(E != 0)=true:=by simp [fx]
          have HZ:=hid fx;clear fx;go_wp2_with (first | (go_at_call 111; refine (Q2j _ _ s x N8.out).mono ?_; rw [HQ.out]; rintro e w5 ⟨rfl,Cq⟩; have vq:=hid (HX.out.trans Cq)) | (go_at_call 119; refine (Q2s _ _ _).mono ?_; rintro e w6 ⟨rfl,rfl⟩) | (go_at_call 96; refine (first_any _ _ [Q0u q 10,Q0u false 11] (Q1v (by simp))).mono ?_; rw [TJ.out]; rintro e w7 ⟨rfl,rfl⟩))
          go_ret;exact ⟨Q1c (by rw [HF.out,qq.out,if_neg HZ.out]),Sq.out.trans (vq.out.trans (Ext.box _ _))⟩
    . go_wp2
      go_ret;exact ⟨Q1c (by rw [HF.out,<- HR.out,X0d (by omega)]),Sq.out.trans HX.out⟩
theorem Z3b (w:World) (gS gM k:Nat) (a b:Value) (s:Q0b) (m0 m1 m3 m4 mc:Value) (cl:List Int) (hS:Blk w gS 34 #[.int .i64 s.limit,a,b]) (hs:Q2t w a b s) (hM:Blk w gM 69 #[m0,m1,mc,m3,m4]) (hc:Q0e w mc cl) (hk:k < s.members.length) :
    Calls prog 169 #[.int .i64 (k:Int),.pointer (some ⟨gS,0,none⟩),.pointer (some ⟨gM,0,none⟩)] w fun e w'=>e=.returned (.bool (decide (Q0c s.members k=cl))) /\ Ext w w':=by
 obtain ⟨B,Wq,rfl,-,-,-⟩:=hs.members.opened;obtain ⟨bm,off,Rq,Jq,Bq,X,Y,Z,aq⟩:=Q3s hs.members hk;have hA:=aq.addr;subst hA;have Zw:=hid aq.e2;have C2:=hid (fun (w1:World) (hx:Ext w w1)=>Y4y w1 _ _ _ cl (aq.x.ext hx) (hc.ext hx));obtain ⟨lc,mj⟩:∃ x,(Q0c s.members k).length=x:=⟨_,rfl⟩;rw [mj] at Zw C2;obtain ⟨q,hq⟩:∃ q,decide (Q0c s.members k=cl)=q:=⟨_,rfl⟩;rw [hq] at C2 ⊢;have vy:=hid hS;have kX:=hid hM;have Lj:(k:Int) < s.members.length:=by omega
 obtain ⟨M,Lf⟩:∃ M,s.members.length=M:=⟨_,rfl⟩;rw [Lf] at vy Lj hk;have Vq:=(Ext.refl w).drew;clear aq mj hq hS hM hs hc Lf;go_enter func169,ntmps169;go_wp2_with fail;refine Flow.Q1h [.p,.w,.p,.p,.p,.w,.p,.w,.w,.p] [0,1,2,3,4,5,6,7,8,9] [[],[0],[],[1,2],[3],[4],[],[6],[5,7],[0,1,2,3,4,5,6,7,8]]
  [.c 0 (.pointer (some ⟨gS,2,none⟩)),.c 1 (.slice (some ⟨bm,off,none⟩) M Wq),.c 2 (.int .i64 (k:Int)),.c 3 (.pointer (some ⟨bm,off + k * 5,none⟩)),.c 4 (.pointer (some ⟨bm,off + k * 5 + 2,none⟩)),.c 5 (.slice X lc Rq),.c 6 (.pointer (some ⟨gM,2,none⟩)),.c 7 (mc),.c 8 (.bool q),.c 9 (.bool q)]
  (by kernel_rfl) rfl (by kernel_rfl) ⟨?g0,?g1,?g2,?g3,?g4,?g5,?g6,?g7,?g8,?g9,trivial⟩ ?post
 case g0 | g2 | g6=>
  intro v w1 hx;intro bb hbb;subst hbb;refine ⟨_,fun w=>?_,rfl⟩;go_simp
 case g1 | g5 | g7=>
  intro v w1 hx;(repeat intro (zq:v _=_));intro bb hbb;subst hbb;have n0:w1.cell? ⟨gS,2,none⟩=some (.slice (some ⟨bm,off,none⟩) M Wq):=(vy.out.ext (Vq.trans hx)).cell 2;have n1:w1.cell? ⟨bm,off + k * 5 + 2,none⟩=some (.slice X lc Rq):=(Vq.trans hx).cell Zw.out;have n2:w1.cell? ⟨gM,2,none⟩=some mc:=(kX.out.ext (Vq.trans hx)).cell 2;intro K hK;go_simp;exact hK _ _ (Ext.refl _) rfl
 case g3 | g4 | g9=>
  intro v w1 hx;(repeat intro (zq:v _=_));intro bb hbb;subst hbb;refine ⟨_,fun w=>?_,rfl⟩;go_simp
 case g8=>
  intro v w1 hx;(repeat intro (zq:v _=_));intro bb hbb;subst hbb;intro K hK;go_simp;refine Q0d (C2.out w1 (Vq.trans hx)) ?_;rintro e w2 ⟨rfl,Mq⟩;exact ⟨_,rfl,hK _ _ Mq rfl⟩
 case post =>
  intro v w1 hx;(iterate 10 intro (zq:v _=_));simp only [Flow.All,Flow.acts,Act.put];go_simp;have HX:=hid (Vq.trans hx);clear hx Vq;(repeat clear zq);go_wp2;go_ret;exact ⟨rfl,HX.out⟩
end Go.Proofs
namespace Go.Flow
open Go.RowKit Go.Tw
def K1a (D:Nat):Deferred:={ target:=.collected D,args:=#[] }
def marks (l:List Nat):List Deferred:=l.map K1a
structure Marked (W:World) (l:List Nat):Prop where
 nd:l.Nodup
 all:∀ D,D ∈ l -> W.heap[D]?=some (.deferred (some []))
theorem Marked.nil (W:World):Marked W []:=⟨List.nodup_nil,fun D h=>by cases h⟩
theorem Marked.lt {W:World} {l:List Nat} (h:Marked W l) {D:Nat} (hD:D ∈ l):D < W.heap.size:=(Array.getElem?_eq_some_iff.1 (h.all D hD)).1
theorem Marked.ext {W W':World} {l:List Nat} (h:Marked W l) (hx:Ext W W'):Marked W' l:=⟨h.nd,fun D hD=>by rw [Below.block hx _ (h.lt hD)]; exact h.all D hD⟩
theorem Marked.keeps {W W':World} {l:List Nat} (h:Marked W l) (hx:KeepsOthers W W'):Marked W' l:=⟨h.nd,fun D hD=>hx.same _ _ (h.all D hD) rfl⟩
theorem Marked.turns {B:Nat} {W W':World} {l:List Nat} (h:Marked W l) (hB:∀ D,D ∈ l -> D < B) (hx:Turns B W W'):Marked W' l:=⟨h.nd,fun D hD=>by rw [hx.same (hB D hD)]; exact h.all D hD⟩
theorem Marked.cons {W:World} {l:List Nat} {D:Nat} (h:Marked W l) (hD:W.heap[D]?=some (.deferred (some []))) (hn:∀ E,E ∈ l -> E < D):Marked W (D :: l):=by
 refine ⟨List.nodup_cons.2 ⟨fun hm=>Nat.lt_irrefl _ (hn D hm),h.nd⟩,fun E hE=>?_⟩
 rcases List.mem_cons.1 hE with rfl | hE
 . exact hD
 . exact h.all E hE
theorem Q6k {F:Fence} {n:Nat} {P:Program} {fn:Func} {tmps:Array Value} {R:Ending -> World -> Prop} {n0:Nat} (J:World -> Prop) (hJ:∀ A B,J A -> Turns n0 A B -> J B)
    (hR:∀ W,J W -> ∃ v,(results fn tmps).run P W=.ok v W /\ R (.returned v) W) :
    ∀ (l:List Nat) (W:World),Marked W l -> (∀ D,D ∈ l -> n0 <= D) -> J W -> LeavesInM F n P fn tmps R (marks l) .returning W
 | [],W,_,_,h=>hR W h
 | D :: l,W,hm,hn,h=>by
   have hD:=hm.all D (List.mem_cons_self ..);have Tq:=hm.lt (List.mem_cons_self ..);refine ⟨by simp,.inl ⟨D,_,rfl,run_takeDeferred hD,Q6k J hJ hR l _ ⟨(List.nodup_cons.1 hm.nd).2,fun E hE=>?_⟩ (fun E hE=>hn E (List.mem_cons_of_mem _ hE)) (hJ _ _ h ⟨D,_,_,hn D (List.mem_cons_self ..),hD,rfl,rfl⟩)⟩⟩
   have hne:E ≠ D:=fun e=>(List.nodup_cons.1 hm.nd).1 (e ▸ hE);rw [World.putObj_heap_other hne];exact hm.all E (List.mem_cons_of_mem _ hE)
theorem Z3g {F:Fence} {n:Nat} {P:Program} {Q:Exit -> Act -> World -> Prop} {a:Act} {w:World} {c:Code} (j N k0:Nat) (I:Nat -> Act -> World -> Prop)
    (hj:∀ k a w,I k a w -> intOf (a.tmps.getD j undef)=(k:Int)) (h0:I k0 a w)
    (round:∀ k a w,I k a w -> ∀ K:Act -> World -> Prop,(∀ a' w',k < N -> I (k + 1) a' w' -> K a' w') -> c.wpIn F n P (Exit.then K Q) a w):(Code.loop c).wpIn F n P Q a w:=by
 refine wpIn_loop (fun a w=>∃ k,I k a w) (fun a _=>N - (intOf (a.tmps.getD j undef)).toNat) ⟨k0,h0⟩ ?_;rintro a w ⟨k,hk⟩;refine round k a w hk _ fun a' w' Tq h'=>⟨⟨k + 1,h'⟩,?_⟩;rw [hj _ _ _ h',hj _ _ _ hk];omega
def X6e (A:Array Value) (js:List Nat) (u:Nat -> Value):Array Value:=js.foldl (fun A j=>A.setIfInBounds j (u j)) A
theorem X9i {F:Fence} {n:Nat} {P:Program} {Q:Exit -> Act -> World -> Prop} {tmps:Array Value} {ds0:List Deferred} {w:World} {c:Code} (j N k0:Nat) (js:List Nat) (Ds0:List Nat) (R:Nat -> Act -> List Nat -> World -> Prop)
    (hj:∀ k a Ds w,R k a Ds w -> intOf (a.tmps.getD j undef)=(k:Int)) (zm:ds0=marks Ds0) (KK:X6e tmps js (fun i=>tmps.getD i undef)=tmps) (h0:R k0 ⟨tmps,ds0⟩ Ds0 w)
    (round:∀ k u Ds w,R k ⟨X6e tmps js u,marks Ds⟩ Ds w -> ∀ K:Act -> World -> Prop,
     (∀ a' w' Ds',k < N -> a'.tmps=X6e tmps js (fun i=>a'.tmps.getD i undef) -> a'.defers=marks Ds' -> R (k + 1) a' Ds' w' -> K a' w') -> c.wpIn F n P (Exit.then K Q) ⟨X6e tmps js u,marks Ds⟩ w) :
    (Code.loop c).wpIn F n P Q ⟨tmps,ds0⟩ w:=by
 refine Z3g j N k0 (fun k a w=>∃ Ds,a=⟨X6e tmps js (fun i=>a.tmps.getD i undef),marks Ds⟩ /\ R k a Ds w) (fun k a w ⟨Ds,_,h⟩=>hj k a Ds w h) ⟨Ds0,by rw [KK,zm],h0⟩ ?_
 rintro k a w ⟨Ds,ha,hR⟩ K hK;have key:∀ u,a=⟨X6e tmps js u,marks Ds⟩ -> c.wpIn F n P (Exit.then K Q) a w:=by
  rintro u rfl;refine round k u Ds w hR K fun a' w' Ds' Tq h1 h2 h3=>hK a' w' Tq ⟨Ds',?_,h3⟩;rw [<- h1,<- h2]
 exact key _ ha
theorem Z6h {n:Nat} {P:Program} {Q:Exit -> Act -> World -> Prop} {a:Act} {w:World} {c:Code} (h:c.wpIn Fence.wide n P (Exit.noGoto Q) a w):(Code.scope c).wpIn Fence.wide n P Q a w :=
 wpIn_wide.2 (wp_scope_straight (wpIn_wide.1 h))
end Go.Flow
namespace Go.Proofs
open Go.RowKit Go.Tw Go.Flow Tryz
attribute [local go_sem] Oper.semAt_some
def Q5m (q:Value × Grp):List Value:=[q.1,.int .i64 q.2.weight]
theorem Q4m (q:Value × Grp):(Q5m q).length=2:=rfl
def GrR (w:World) (gl:List (Value × Grp)):Prop:=∀ q ∈ gl,Q0n w 0 3 (.int .i64) q.1 q.2.members
theorem GrR.nil (w:World):GrR w []:=fun _ hq=>by simp at hq
theorem GrR.ext {w w':World} {gl:List (Value × Grp)} (h:GrR w gl) (hx:Ext w w'):GrR w' gl:=fun q hq=>(h q hq).below hx
theorem GrR.snoc {w:World} {gl:List (Value × Grp)} {q:Value × Grp} (h:GrR w gl) (hq:Q0n w 0 3 (.int .i64) q.1 q.2.members):GrR w (gl ++ [q]):=fun z hz=>by
 rcases List.mem_append.1 hz with hz | hz
 . exact h z hz
 . rw [List.mem_singleton.1 hz]; exact hq
def Y1j (s:Q0b) (i:Nat):List Int:=(X1y s i).map Int.ofNat
def Z3u (s:Q0b) (i:Nat):Grp:=⟨Y1j s i,X4p s (X1y s i)⟩
def Q6n (s:Q0b) (k:Nat):List Grp:=(Q5p (Q8h s) k).map (Z3u s)
theorem Z7r (s:Q0b):Q6n s s.members.length=Q1k s:=by rw [X1g]; rfl
theorem Z8o {s:Q0b} {k:Nat} (h:Z1w (Q8h s) k=true):Q6n s (k + 1)=Q6n s k ++ [Z3u s k]:=by
 unfold Q6n; rw [Q9n,if_pos h,List.map_append]; rfl
theorem J0q {s:Q0b} {k:Nat} (h:Z1w (Q8h s) k=false):Q6n s (k + 1)=Q6n s k:=by
 unfold Q6n; rw [Q9n,if_neg (by simp [h]),List.append_nil]
def X7e (s:Q0b) (j i:Nat):List Int:=(Q4j (Q8h s) j i).map Int.ofNat
theorem Y4z (s:Q0b) (j i:Nat):X7e s (j + 1) i=X7e s j i ++ if decide (Q0c s.members j=Q0c s.members i) then [(j:Int)] else []:=by
 unfold X7e;rw [Q7o,List.map_append]
 by_cases h:Q0c s.members j=Q0c s.members i
 . rw [if_pos (by simpa [Q8h] using h),if_pos (by simpa using h)]; rfl
 . rw [if_neg (by simpa [Q8h] using h),if_neg (by simpa using h)]; rfl
theorem X9t (s:Q0b) (i:Nat):∀ j,(X7e s j i).length <= j
 | 0=>by simp [X7e,Q4j]
 | j + 1=>by
   have h:=X9t s i j;rw [Y4z,List.length_append]
   split <;> simp <;> omega
def Y2i (s:Q0b) (l:List Nat) (c j:Nat):Int:=((l.take j).map fun k=>if (Q2a s k).keeps s.limit (Q5l c s.ships.length) then Q0o s.members k else 0).sum
theorem Y3t {s:Q0b} {l:List Nat} {c j:Nat} (hj:j < l.length):Y2i s l c (j + 1)=Y2i s l c j + if (Q2a s l[j]).keeps s.limit (Q5l c s.ships.length) then Q0o s.members l[j] else 0:=by
 unfold Y2i;rw [List.take_succ_eq_append_getElem hj,List.map_append,List.sum_append]; simp
theorem Y8a (s:Q0b) (l:List Nat) (c:Nat):Y2i s l c l.length=X2i s l c:=by unfold Y2i X2i; rw [List.take_length]
theorem Y6k {s:Q0b} (hv:Q0w s) {l:List Nat} (hl:∀ k ∈ l,k < s.members.length) (c:Nat):∀ j,j <= l.length -> 0 <= Y2i s l c j /\ Y2i s l c j <= 1000 * j
 | 0,_=>by simp [Y2i]
 | j + 1,h=>by
   have ih:=Y6k hv hl c j (by omega)
   have hw:=hv.weights l[j] (hl _ (List.getElem_mem (by omega)))
   rw [Y3t (by omega)]
   split <;> omega
def Z3z (s:Q0b) (l:List Nat) (j:Nat):Int:=(List.range j).foldl (fun m n=>max m (X2i s l n)) 0
theorem X9d (s:Q0b) (l:List Nat) (j:Nat):Z3z s l (j + 1)=max (Z3z s l j) (X2i s l j):=by
 unfold Z3z; rw [List.range_succ,List.foldl_append]; rfl
theorem Y5h {s:Q0b} (hv:Q0w s) {l:List Nat} (hl:∀ k ∈ l,k < s.members.length) (h8:l.length <= 8):∀ j,0 <= Z3z s l j /\ Z3z s l j <= 8000
 | 0=>by simp [Z3z]
 | j + 1=>by
   have ih:=Y5h hv hl h8 j;have h:=Y6k hv hl j l.length (Nat.le_refl _);rw [Y8a] at h;rw [X9d];omega
theorem Q8k (f:Nat -> List Int):∀ k,(Q5p f k).length <= k
 | 0=>by simp [Q5p]
 | k + 1=>by
   have:=Q8k f k;rw [Q9n,List.length_append]
   split <;> simp <;> omega
theorem J9b {s:Q0b} (hv:Q0w s) (k:Nat):0 <= ((Q6n s k).map Grp.weight).sum /\ ((Q6n s k).map Grp.weight).sum <= 8000 * k:=by
 have hl:∀ i,0 <= (Z3u s i).weight /\ (Z3u s i).weight <= 8000:=fun i=>by
  have hm:∀ x ∈ X1y s i,x < s.members.length:=fun x hx=>List.mem_range.1 (List.mem_filter.1 hx).1;have h8:(X1y s i).length <= 8:=by
   have h1:(X1y s i).length <= (List.range s.members.length).length:=List.length_filter_le ..;rw [List.length_range] at h1;have:=hv.some; omega
  exact Y5h hv hm h8 _
 have key:∀ l:List Nat,0 <= ((l.map (Z3u s)).map Grp.weight).sum /\ ((l.map (Z3u s)).map Grp.weight).sum <= 8000 * l.length:=by
  intro l
  induction l with
  | nil=>simp
  | cons x l ih =>
    have:=hl x;simp only [List.map_cons,List.sum_cons,List.length_cons];omega
 have h1:=key (Q5p (Q8h s) k);have h2:=Q8k (Q8h s) k;unfold Q6n;omega
theorem X5a {α:Type} {k n:Nat} {R:World -> (Nat -> Value) -> α -> Prop} {w:World} {g:Nat} {T:TypeId} {cs:Array Value} {l:List α} (h:Blk w g T cs) (hl:l.length=n) (hn:n <= 1000) (pq:cs.size=n * k)
    (hR:∀ i (hi:i < l.length),R w (fun j=>cs.getD (i * k + j) undef) l[i]):Go.Tw.Rows k R w (.slice (some ⟨g,0,none⟩) n n) l:=by
 subst hl;refine ⟨fun j=>cs.getD j undef,⟨some ⟨g,0,none⟩,l.length,rfl,by omega,Nat.le_refl _,fun j hj=>⟨g,0,rfl,?_⟩⟩,hR⟩
 have Sv:j < cs.size:=by omega
 rw [Nat.zero_add,h.cell];show cs[j]?=some (cs.getD j undef);rw [Array.getD_eq_getD_getElem?,Array.getElem?_eq_getElem Sv];rfl
theorem Q2c {w:World} {g:Nat} {T:TypeId} {cs:Array Value} {l:List Int} {n:Nat} (h:Blk w g T cs) (hc:cs=(l.map (Value.int .i64)).toArray) (hl:l.length=n) (hn:n <= 1000):Q0e w (.slice (some ⟨g,0,none⟩) n n) l:=by
 subst hc;refine X5a (k:=1) h hl hn (by simp [hl]) fun i hi=>?_
 show (List.map (Value.int .i64) l).toArray.getD (i * 1 + 0) undef=_;simp [hi]
theorem Tryz.K0p (w:World):(isAgg 38).run prog w=.ok true w:=by kernel_rfl
theorem Tryz.J7n (w:World):(sizeOf 38).run prog w=.ok 1 w:=by kernel_rfl
theorem Z4y (b:UInt8):Short ⟨#[b]⟩:=by show (1:Nat) <= _; omega
theorem Q3h (w:World) :
    Calls prog 90 #[] w fun e w'=>∃ u,e=.returned u /\ Q0g w' u Q0s /\ Ext w w':=by
 go_enter func90,ntmps90;go_wp2_with fail;have k0:=Blk.made w 34 #[.int .i64 30,.slice (some ⟨w.heap.size + 1,0,none⟩) 2 2,.slice (some ⟨w.heap.size + 1 + 1 + 1 + 1 + 1 + 1 + 1 + 1 + 1 + 1 + 1,0,none⟩) 3 3];have x0:=Ext.box w (.cells #[.int .i64 30,.slice (some ⟨w.heap.size + 1,0,none⟩) 2 2,.slice (some ⟨w.heap.size + 1 + 1 + 1 + 1 + 1 + 1 + 1 + 1 + 1 + 1 + 1,0,none⟩) 3 3] 34);have es0:(w.alloc (.cells #[.int .i64 30,.slice (some ⟨w.heap.size + 1,0,none⟩) 2 2,.slice (some ⟨w.heap.size + 1 + 1 + 1 + 1 + 1 + 1 + 1 + 1 + 1 + 1 + 1,0,none⟩) 3 3] 34)).heap.size=w.heap.size + 1:=by simp
 obtain ⟨X0,i5⟩:∃ X,w.alloc (.cells #[.int .i64 30,.slice (some ⟨w.heap.size + 1,0,none⟩) 2 2,.slice (some ⟨w.heap.size + 1 + 1 + 1 + 1 + 1 + 1 + 1 + 1 + 1 + 1 + 1,0,none⟩) 3 3] 34)=X:=⟨_,rfl⟩;rw [i5] at k0 x0 es0 ⊢;clear i5;have k1:=Blk.made X0 3 #[.int .i64 5,.int .i64 7];have x1:=Ext.box X0 (.cells #[.int .i64 5,.int .i64 7] 3);have es1:(X0.alloc (.cells #[.int .i64 5,.int .i64 7] 3)).heap.size=X0.heap.size + 1:=by simp
 obtain ⟨X1,d5⟩:∃ X,X0.alloc (.cells #[.int .i64 5,.int .i64 7] 3)=X:=⟨_,rfl⟩;rw [d5] at k1 x1 es1 ⊢;clear d5;have k2:=Blk.made X1 3 #[.int .i64 0,.int .i64 0];have x2:=Ext.box X1 (.cells #[.int .i64 0,.int .i64 0] 3);have es2:(X1.alloc (.cells #[.int .i64 0,.int .i64 0] 3)).heap.size=X1.heap.size + 1:=by simp
 obtain ⟨X2,b5⟩:∃ X,X1.alloc (.cells #[.int .i64 0,.int .i64 0] 3)=X:=⟨_,rfl⟩;rw [b5] at k2 x2 es2 ⊢;clear b5;have k3:=Blk.made X2 3 #[.int .i64 20,.int .i64 40];have x3:=Ext.box X2 (.cells #[.int .i64 20,.int .i64 40] 3);have es3:(X2.alloc (.cells #[.int .i64 20,.int .i64 40] 3)).heap.size=X2.heap.size + 1:=by simp
 obtain ⟨X3,Z6⟩:∃ X,X2.alloc (.cells #[.int .i64 20,.int .i64 40] 3)=X:=⟨_,rfl⟩;rw [Z6] at k3 x3 es3 ⊢;clear Z6;have k4:=Blk.made X3 3 #[.int .i64 10,.int .i64 10];have x4:=Ext.box X3 (.cells #[.int .i64 10,.int .i64 10] 3);have es4:(X3.alloc (.cells #[.int .i64 10,.int .i64 10] 3)).heap.size=X3.heap.size + 1:=by simp
 obtain ⟨X4,A9⟩:∃ X,X3.alloc (.cells #[.int .i64 10,.int .i64 10] 3)=X:=⟨_,rfl⟩;rw [A9] at k4 x4 es4 ⊢;clear A9;have k5:=Blk.made X4 3 #[.int .i64 0,.int .i64 1];have x5:=Ext.box X4 (.cells #[.int .i64 0,.int .i64 1] 3);have es5:(X4.alloc (.cells #[.int .i64 0,.int .i64 1] 3)).heap.size=X4.heap.size + 1:=by simp
 obtain ⟨X5,JK⟩:∃ X,X4.alloc (.cells #[.int .i64 0,.int .i64 1] 3)=X:=⟨_,rfl⟩;rw [JK] at k5 x5 es5 ⊢;clear JK;have k6:=Blk.made X5 3 #[.int .i64 40,.int .i64 20];have x6:=Ext.box X5 (.cells #[.int .i64 40,.int .i64 20] 3);have es6:(X5.alloc (.cells #[.int .i64 40,.int .i64 20] 3)).heap.size=X5.heap.size + 1:=by simp
 obtain ⟨X6,Kf⟩:∃ X,X5.alloc (.cells #[.int .i64 40,.int .i64 20] 3)=X:=⟨_,rfl⟩;rw [Kf] at k6 x6 es6 ⊢;clear Kf;have k7:=Blk.made X6 3 #[.int .i64 10,.int .i64 25];have x7:=Ext.box X6 (.cells #[.int .i64 10,.int .i64 25] 3);have es7:(X6.alloc (.cells #[.int .i64 10,.int .i64 25] 3)).heap.size=X6.heap.size + 1:=by simp
 obtain ⟨X7,Jf⟩:∃ X,X6.alloc (.cells #[.int .i64 10,.int .i64 25] 3)=X:=⟨_,rfl⟩;rw [Jf] at k7 x7 es7 ⊢;clear Jf;have k8:=Blk.made X7 3 #[.int .i64 0,.int .i64 1];have x8:=Ext.box X7 (.cells #[.int .i64 0,.int .i64 1] 3);have es8:(X7.alloc (.cells #[.int .i64 0,.int .i64 1] 3)).heap.size=X7.heap.size + 1:=by simp
 obtain ⟨X8,Gf⟩:∃ X,X7.alloc (.cells #[.int .i64 0,.int .i64 1] 3)=X:=⟨_,rfl⟩;rw [Gf] at k8 x8 es8 ⊢;clear Gf;have k9:=Blk.made X8 3 #[.int .i64 20,.int .i64 20];have x9:=Ext.box X8 (.cells #[.int .i64 20,.int .i64 20] 3);have es9:(X8.alloc (.cells #[.int .i64 20,.int .i64 20] 3)).heap.size=X8.heap.size + 1:=by simp
 obtain ⟨X9,Ff⟩:∃ X,X8.alloc (.cells #[.int .i64 20,.int .i64 20] 3)=X:=⟨_,rfl⟩;rw [Ff] at k9 x9 es9 ⊢;clear Ff;have k10:=Blk.made X9 3 #[.int .i64 10,.int .i64 10];have x10:=Ext.box X9 (.cells #[.int .i64 10,.int .i64 10] 3);have es10:(X9.alloc (.cells #[.int .i64 10,.int .i64 10] 3)).heap.size=X9.heap.size + 1:=by simp
 obtain ⟨X10,GK⟩:∃ X,X9.alloc (.cells #[.int .i64 10,.int .i64 10] 3)=X:=⟨_,rfl⟩;rw [GK] at k10 x10 es10 ⊢;clear GK;have k11:=Blk.made X10 69 #[.string ⟨#[97]⟩,.int .i64 2,.slice (some ⟨w.heap.size + 1 + 1,0,none⟩) 2 2,.slice (some ⟨w.heap.size + 1 + 1 + 1,0,none⟩) 2 2,.slice (some ⟨w.heap.size + 1 + 1 + 1 + 1,0,none⟩) 2 2,.string ⟨#[98]⟩,.int .i64 1,.slice (some ⟨w.heap.size + 1 + 1 + 1 + 1 + 1,0,none⟩) 2 2,.slice (some ⟨w.heap.size + 1 + 1 + 1 + 1 + 1 + 1,0,none⟩) 2 2,.slice (some ⟨w.heap.size + 1 + 1 + 1 + 1 + 1 + 1 + 1,0,none⟩) 2 2,.string ⟨#[99]⟩,.int .i64 1,.slice (some ⟨w.heap.size + 1 + 1 + 1 + 1 + 1 + 1 + 1 + 1,0,none⟩) 2 2,.slice (some ⟨w.heap.size + 1 + 1 + 1 + 1 + 1 + 1 + 1 + 1 + 1,0,none⟩) 2 2,.slice (some ⟨w.heap.size + 1 + 1 + 1 + 1 + 1 + 1 + 1 + 1 + 1 + 1,0,none⟩) 2 2];have x11:=Ext.box X10 (.cells #[.string ⟨#[97]⟩,.int .i64 2,.slice (some ⟨w.heap.size + 1 + 1,0,none⟩) 2 2,.slice (some ⟨w.heap.size + 1 + 1 + 1,0,none⟩) 2 2,.slice (some ⟨w.heap.size + 1 + 1 + 1 + 1,0,none⟩) 2 2,.string ⟨#[98]⟩,.int .i64 1,.slice (some ⟨w.heap.size + 1 + 1 + 1 + 1 + 1,0,none⟩) 2 2,.slice (some ⟨w.heap.size + 1 + 1 + 1 + 1 + 1 + 1,0,none⟩) 2 2,.slice (some ⟨w.heap.size + 1 + 1 + 1 + 1 + 1 + 1 + 1,0,none⟩) 2 2,.string ⟨#[99]⟩,.int .i64 1,.slice (some ⟨w.heap.size + 1 + 1 + 1 + 1 + 1 + 1 + 1 + 1,0,none⟩) 2 2,.slice (some ⟨w.heap.size + 1 + 1 + 1 + 1 + 1 + 1 + 1 + 1 + 1,0,none⟩) 2 2,.slice (some ⟨w.heap.size + 1 + 1 + 1 + 1 + 1 + 1 + 1 + 1 + 1 + 1,0,none⟩) 2 2] 69);have es11:(X10.alloc (.cells #[.string ⟨#[97]⟩,.int .i64 2,.slice (some ⟨w.heap.size + 1 + 1,0,none⟩) 2 2,.slice (some ⟨w.heap.size + 1 + 1 + 1,0,none⟩) 2 2,.slice (some ⟨w.heap.size + 1 + 1 + 1 + 1,0,none⟩) 2 2,.string ⟨#[98]⟩,.int .i64 1,.slice (some ⟨w.heap.size + 1 + 1 + 1 + 1 + 1,0,none⟩) 2 2,.slice (some ⟨w.heap.size + 1 + 1 + 1 + 1 + 1 + 1,0,none⟩) 2 2,.slice (some ⟨w.heap.size + 1 + 1 + 1 + 1 + 1 + 1 + 1,0,none⟩) 2 2,.string ⟨#[99]⟩,.int .i64 1,.slice (some ⟨w.heap.size + 1 + 1 + 1 + 1 + 1 + 1 + 1 + 1,0,none⟩) 2 2,.slice (some ⟨w.heap.size + 1 + 1 + 1 + 1 + 1 + 1 + 1 + 1 + 1,0,none⟩) 2 2,.slice (some ⟨w.heap.size + 1 + 1 + 1 + 1 + 1 + 1 + 1 + 1 + 1 + 1,0,none⟩) 2 2] 69)).heap.size=X10.heap.size + 1:=by simp
 obtain ⟨X11,EK⟩:∃ X,X10.alloc (.cells #[.string ⟨#[97]⟩,.int .i64 2,.slice (some ⟨w.heap.size + 1 + 1,0,none⟩) 2 2,.slice (some ⟨w.heap.size + 1 + 1 + 1,0,none⟩) 2 2,.slice (some ⟨w.heap.size + 1 + 1 + 1 + 1,0,none⟩) 2 2,.string ⟨#[98]⟩,.int .i64 1,.slice (some ⟨w.heap.size + 1 + 1 + 1 + 1 + 1,0,none⟩) 2 2,.slice (some ⟨w.heap.size + 1 + 1 + 1 + 1 + 1 + 1,0,none⟩) 2 2,.slice (some ⟨w.heap.size + 1 + 1 + 1 + 1 + 1 + 1 + 1,0,none⟩) 2 2,.string ⟨#[99]⟩,.int .i64 1,.slice (some ⟨w.heap.size + 1 + 1 + 1 + 1 + 1 + 1 + 1 + 1,0,none⟩) 2 2,.slice (some ⟨w.heap.size + 1 + 1 + 1 + 1 + 1 + 1 + 1 + 1 + 1,0,none⟩) 2 2,.slice (some ⟨w.heap.size + 1 + 1 + 1 + 1 + 1 + 1 + 1 + 1 + 1 + 1,0,none⟩) 2 2] 69)=X:=⟨_,rfl⟩;rw [EK] at k11 x11 es11 ⊢;clear EK;replace k0:=((((((((((k0.ext x1).ext x2).ext x3).ext x4).ext x5).ext x6).ext x7).ext x8).ext x9).ext x10).ext x11;replace k1:=(((((((((k1.ext x2).ext x3).ext x4).ext x5).ext x6).ext x7).ext x8).ext x9).ext x10).ext x11;replace k2:=((((((((k2.ext x3).ext x4).ext x5).ext x6).ext x7).ext x8).ext x9).ext x10).ext x11;replace k3:=(((((((k3.ext x4).ext x5).ext x6).ext x7).ext x8).ext x9).ext x10).ext x11;replace k4:=((((((k4.ext x5).ext x6).ext x7).ext x8).ext x9).ext x10).ext x11;replace k5:=(((((k5.ext x6).ext x7).ext x8).ext x9).ext x10).ext x11;replace k6:=((((k6.ext x7).ext x8).ext x9).ext x10).ext x11;replace k7:=(((k7.ext x8).ext x9).ext x10).ext x11;replace k8:=((k8.ext x9).ext x10).ext x11;replace k9:=(k9.ext x10).ext x11;replace k10:=k10.ext x11;have e0:X0.heap.size=w.heap.size + 1:=by omega
 have e1:X1.heap.size=w.heap.size + 1 + 1:=by omega
 have e2:X2.heap.size=w.heap.size + 1 + 1 + 1:=by omega
 have e3:X3.heap.size=w.heap.size + 1 + 1 + 1 + 1:=by omega
 have e4:X4.heap.size=w.heap.size + 1 + 1 + 1 + 1 + 1:=by omega
 have e5:X5.heap.size=w.heap.size + 1 + 1 + 1 + 1 + 1 + 1:=by omega
 have e6:X6.heap.size=w.heap.size + 1 + 1 + 1 + 1 + 1 + 1 + 1:=by omega
 have e7:X7.heap.size=w.heap.size + 1 + 1 + 1 + 1 + 1 + 1 + 1 + 1:=by omega
 have e8:X8.heap.size=w.heap.size + 1 + 1 + 1 + 1 + 1 + 1 + 1 + 1 + 1:=by omega
 have e9:X9.heap.size=w.heap.size + 1 + 1 + 1 + 1 + 1 + 1 + 1 + 1 + 1 + 1:=by omega
 have e10:X10.heap.size=w.heap.size + 1 + 1 + 1 + 1 + 1 + 1 + 1 + 1 + 1 + 1 + 1:=by omega
 have e11:X11.heap.size=w.heap.size + 1 + 1 + 1 + 1 + 1 + 1 + 1 + 1 + 1 + 1 + 1 + 1:=by omega
 rw [e0] at k1;rw [e1] at k2;rw [e2] at k3;rw [e3] at k4;rw [e4] at k5;rw [e5] at k6;rw [e6] at k7;rw [e7] at k8;rw [e8] at k9;rw [e9] at k10;rw [e10] at k11;have Sq:Hid (Ext w X11):=hid (Ext.trans (Ext.trans (Ext.trans (Ext.trans (Ext.trans (Ext.trans (Ext.trans (Ext.trans (Ext.trans (Ext.trans (Ext.trans (x0) x1) x2) x3) x4) x5) x6) x7) x8) x9) x10) x11);have eW:X11.heap.size=w.heap.size + 1 + 1 + 1 + 1 + 1 + 1 + 1 + 1 + 1 + 1 + 1 + 1:=e11;clear x0 es0 e0 x1 es1 e1 x2 es2 e2 x3 es3 e3 x4 es4 e4 x5 es5 e5 x6 es6 e6 x7 es7 e7 x8 es8 e8 x9 es9 e9 x10 es10 e10 x11 es11 e11;obtain ⟨W,Nq⟩:∃ W,X11=W:=⟨_,rfl⟩;rw [Nq] at Sq eW ⊢ k0 k1 k2 k3 k4 k5 k6 k7 k8 k9 k10 k11;clear Nq;refine bodyPost_ret (Q2h results90 rfl k0 X8b Q9q) rfl ?_;refine ⟨_,rfl,⟨_,_,rfl,⟨Q2c (l:=[5,7]) k1 rfl rfl (by omega),?_⟩⟩,Sq.out⟩
 refine X5a k11 rfl (by omega) rfl fun i hi=>?_
 have:i=0 ∨ i=1 ∨ i=2:=by simp [Q0s] at hi; omega
 rcases this with rfl | rfl | rfl
 . exact ⟨rfl,rfl,Q2c (l:=[0,0]) k2 rfl rfl (by omega),Q2c (l:=[20,40]) k3 rfl rfl (by omega),Q2c (l:=[10,10]) k4 rfl rfl (by omega),Z4y _⟩
 . exact ⟨rfl,rfl,Q2c (l:=[0,1]) k5 rfl rfl (by omega),Q2c (l:=[40,20]) k6 rfl rfl (by omega),Q2c (l:=[10,25]) k7 rfl rfl (by omega),Z4y _⟩
 . exact ⟨rfl,rfl,Q2c (l:=[0,1]) k8 rfl rfl (by omega),Q2c (l:=[20,20]) k9 rfl rfl (by omega),Q2c (l:=[10,10]) k10 rfl rfl (by omega),Z4y _⟩
theorem Q6p (w:World) (a b c:Bool) :
    Calls prog 91 #[.bool a,.bool b,.bool c] w fun e w'=>∃ u,e=.returned u /\ Q0m w' u (X3t a b c) /\ Ext w w':=by
 go_enter func91,ntmps91;go_wp2_with fail;have k0:=Blk.made w 38 #[.slice (some ⟨w.heap.size + 1 + 1 + 1 + 1,0,none⟩) 3 3];have x0:=Ext.box w (.cells #[.slice (some ⟨w.heap.size + 1 + 1 + 1 + 1,0,none⟩) 3 3] 38);have es0:(w.alloc (.cells #[.slice (some ⟨w.heap.size + 1 + 1 + 1 + 1,0,none⟩) 3 3] 38)).heap.size=w.heap.size + 1:=by simp
 obtain ⟨X0,i5⟩:∃ X,w.alloc (.cells #[.slice (some ⟨w.heap.size + 1 + 1 + 1 + 1,0,none⟩) 3 3] 38)=X:=⟨_,rfl⟩;rw [i5] at k0 x0 es0 ⊢;clear i5;have k1:=Blk.made X0 3 #[.int .i64 0];have x1:=Ext.box X0 (.cells #[.int .i64 0] 3);have es1:(X0.alloc (.cells #[.int .i64 0] 3)).heap.size=X0.heap.size + 1:=by simp
 obtain ⟨X1,d5⟩:∃ X,X0.alloc (.cells #[.int .i64 0] 3)=X:=⟨_,rfl⟩;rw [d5] at k1 x1 es1 ⊢;clear d5;have k2:=Blk.made X1 3 #[.int .i64 0,.int .i64 0];have x2:=Ext.box X1 (.cells #[.int .i64 0,.int .i64 0] 3);have es2:(X1.alloc (.cells #[.int .i64 0,.int .i64 0] 3)).heap.size=X1.heap.size + 1:=by simp
 obtain ⟨X2,b5⟩:∃ X,X1.alloc (.cells #[.int .i64 0,.int .i64 0] 3)=X:=⟨_,rfl⟩;rw [b5] at k2 x2 es2 ⊢;clear b5;have k3:=Blk.made X2 3 #[.int .i64 0,.int .i64 1];have x3:=Ext.box X2 (.cells #[.int .i64 0,.int .i64 1] 3);have es3:(X2.alloc (.cells #[.int .i64 0,.int .i64 1] 3)).heap.size=X2.heap.size + 1:=by simp
 obtain ⟨X3,Z6⟩:∃ X,X2.alloc (.cells #[.int .i64 0,.int .i64 1] 3)=X:=⟨_,rfl⟩;rw [Z6] at k3 x3 es3 ⊢;clear Z6;have k4:=Blk.made X3 167 #[.slice (some ⟨w.heap.size + 1,0,none⟩) 1 1,.bool a,.slice (some ⟨w.heap.size + 1 + 1,0,none⟩) 2 2,.bool b,.slice (some ⟨w.heap.size + 1 + 1 + 1,0,none⟩) 2 2,.bool c];have x4:=Ext.box X3 (.cells #[.slice (some ⟨w.heap.size + 1,0,none⟩) 1 1,.bool a,.slice (some ⟨w.heap.size + 1 + 1,0,none⟩) 2 2,.bool b,.slice (some ⟨w.heap.size + 1 + 1 + 1,0,none⟩) 2 2,.bool c] 167);have es4:(X3.alloc (.cells #[.slice (some ⟨w.heap.size + 1,0,none⟩) 1 1,.bool a,.slice (some ⟨w.heap.size + 1 + 1,0,none⟩) 2 2,.bool b,.slice (some ⟨w.heap.size + 1 + 1 + 1,0,none⟩) 2 2,.bool c] 167)).heap.size=X3.heap.size + 1:=by simp
 obtain ⟨X4,A9⟩:∃ X,X3.alloc (.cells #[.slice (some ⟨w.heap.size + 1,0,none⟩) 1 1,.bool a,.slice (some ⟨w.heap.size + 1 + 1,0,none⟩) 2 2,.bool b,.slice (some ⟨w.heap.size + 1 + 1 + 1,0,none⟩) 2 2,.bool c] 167)=X:=⟨_,rfl⟩;rw [A9] at k4 x4 es4 ⊢;clear A9;replace k0:=(((k0.ext x1).ext x2).ext x3).ext x4;replace k1:=((k1.ext x2).ext x3).ext x4;replace k2:=(k2.ext x3).ext x4;replace k3:=k3.ext x4;have e0:X0.heap.size=w.heap.size + 1:=by omega
 have e1:X1.heap.size=w.heap.size + 1 + 1:=by omega
 have e2:X2.heap.size=w.heap.size + 1 + 1 + 1:=by omega
 have e3:X3.heap.size=w.heap.size + 1 + 1 + 1 + 1:=by omega
 have e4:X4.heap.size=w.heap.size + 1 + 1 + 1 + 1 + 1:=by omega
 rw [e0] at k1;rw [e1] at k2;rw [e2] at k3;rw [e3] at k4;have Sq:Hid (Ext w X4):=hid (Ext.trans (Ext.trans (Ext.trans (Ext.trans (x0) x1) x2) x3) x4);have eW:X4.heap.size=w.heap.size + 1 + 1 + 1 + 1 + 1:=e4;clear x0 es0 e0 x1 es1 e1 x2 es2 e2 x3 es3 e3 x4 es4 e4;obtain ⟨W,Nq⟩:∃ W,X4=W:=⟨_,rfl⟩;rw [Nq] at Sq eW ⊢ k0 k1 k2 k3 k4;clear Nq;refine bodyPost_ret (Q2h results91 rfl k0 K0p J7n) rfl ?_;refine ⟨_,rfl,⟨_,rfl,?_⟩,Sq.out⟩;refine X5a k4 rfl (by omega) rfl fun i hi=>?_
 have:i=0 ∨ i=1 ∨ i=2:=by simp [X3t] at hi; omega
 rcases this with rfl | rfl | rfl
 . exact ⟨Q2c (l:=[0]) k1 rfl rfl (by omega),rfl⟩
 . exact ⟨Q2c (l:=[0,0]) k2 rfl rfl (by omega),rfl⟩
 . exact ⟨Q2c (l:=[0,1]) k3 rfl rfl (by omega),rfl⟩
end Go.Proofs
namespace Go.Proofs
open Go.RowKit Go.Tw Go.Flow Tryz
theorem Q7s (w:World) (v:Value) (l:List Int) (hv:Q0e w v l) (lx:l.length <= 4096) :
    Calls prog 63 #[v] w fun e w'=>∃ u,e=.returned u /\ Q0n w' w.heap.size 3 (.int .i64) u l /\ Ext w w':=by
 obtain ⟨i0,hi,fq,mq,iq⟩:=info_parts info3;obtain ⟨A,Qq,rfl,hl,Kq,hc⟩:=hv.opened;have hx:=Ext.box w (.cells #[] 3);have Yq:Q0n (w.alloc (.cells #[] 3)) w.heap.size 3 (Value.int .i64) (.slice (some ⟨w.heap.size,0,none⟩) 0 0) []:=World.ownsRow_made w #[] 0 (Nat.le_refl _) (by unfold maxLen; omega) rfl
 cases A with
 | none =>
   have hz:l=[]:=by
    cases l with
    | nil=>rfl
    | cons x l=>obtain ⟨b,off,he,_⟩:=hc 0 (by simp); cases he
   subst hz;clear hv hc;go_enter func63,ntmps63;go_wp2;go_ret;exact ⟨_,rfl,Yq,hx⟩
 | some a =>
   have Z3:Hid (∀ j u,(l.map (Value.int .i64))[j]?=some u -> (w.alloc (.cells #[] 3)).cell? (a.add j)=some u):=by
    exact (by
     intro j u hj;rw [List.getElem?_map] at hj;obtain ⟨y,hy,rfl⟩:=Option.map_eq_some_iff.1 hj;obtain ⟨Zj,rfl⟩:=List.getElem?_eq_some_iff.1 hy;obtain ⟨b,off,he,Xq⟩:=hc j Zj;cases he;rw [addr_add,hx.cell Xq,Q5i Zj]:∀ j u,(l.map (Value.int .i64))[j]?=some u -> (w.alloc (.cells #[] 3)).cell? (a.add j)=some u)
   have bj:Hid (∀ u ∈ l.map (Value.int .i64),u.oneCell'=true):=by
    exact (by intro u hu; obtain ⟨y,_,rfl⟩:=List.mem_map.1 hu; rfl:∀ u ∈ l.map (Value.int .i64),u.oneCell'=true)
   have V8:Hid ((l.map (Value.int .i64)).length=l.length * 1):=hid (by simp)
   clear hv hc;go_enter func63,ntmps63;go_wp2_with (at_builtin; refine wpList_append_own _ rfl _ _ 22 rfl (w.heap.size) 3 i0 (.int .i64 0) 1 8 underlying22 hi fq mq iq rfl (by decide) _ _ _ rfl Yq a l.length Qq (l.map (Value.int .i64)) rfl V8.out Z3.out bj.out ?_ ?_ ?_ ?_; (focus (unfold maxLen; simp; omega)); (focus (simp; omega)); (focus (simp)); intro v' w4 Oq Pq _; refine halted ?_)
   have Uv:Ext w w4:=Below.trans hx (below_grown Yq Pq (Nat.le_refl _) hx.size);have Y6:Q0n w4 w.heap.size 3 (.int .i64) v' l:=by
    unfold Q0n;rw [show l.length=0 + l.length from (Nat.zero_add _).symm]
    exact Oq
   clear Oq Pq Yq hx;unfold Q1o;go_wp2;go_ret;exact ⟨_,rfl,Y6,Uv⟩
def Y5j (l:List Int) (k:Nat):List (List Int):=(List.range k).map fun t=>l.take (t + 1)
theorem Z7j (l:List Int) (k:Nat):Y5j l (k + 1)=Y5j l k ++ [l.take (k + 1)]:=by unfold Y5j; rw [List.range_succ,List.map_append]; rfl
theorem Y9f (l:List Int) (k:Nat):(Y5j l k).length=k:=by unfold Y5j; simp
def Y7d (s:Q0b) (i:Nat):List (List Int):=(s.members.take i).flatMap fun m=>Y5j m.classes m.classes.length
theorem Y4j (s:Q0b) {i:Nat} (hi:i < s.members.length):Y7d s (i + 1)=Y7d s i ++ Y5j (Q0c s.members i) (Q0c s.members i).length:=by
 unfold Y7d Q0c;rw [List.take_succ_eq_append_getElem hi,List.flatMap_append,Q0t _ hi]; simp
theorem Z9p (s:Q0b):Y7d s s.members.length=s.Y1h:=by unfold Y7d; rw [List.take_length]; rfl
theorem Y0c {s:Q0b} (hS:Q0w s):∀ i,i <= s.members.length -> (Y7d s i).length=i * s.ships.length
 | 0,_=>by simp [Y7d]
 | i + 1,h=>by
   rw [Y4j s (by omega),List.length_append,Y0c hS i (by omega),Y9f,(hS.shaped i (by omega)).1,Nat.add_mul,Nat.one_mul]
theorem Y8n (w:World) (a:Addr) (n Qq:Nat):(binOp .eql 166 (.slice (some a) n Qq) (.slice none 0 0)).run prog w=.ok (.bool false) w:=by kernel_rfl
attribute [local go_sem ↓] Y8n
theorem Z8s (w:World) (a:Addr) (n Qq:Nat) (l:List Int) (hv:Q0e w (.slice (some a) n Qq) l) (hn:n=l.length) (lx:l.length <= 4096) :
    Calls prog 158 #[.slice (some a) n Qq] w fun e w'=>∃ u,e=.returned u /\ Q0n w' w.heap.size 3 (.int .i64) u l /\ Ext w w':=by
 obtain ⟨i0,hi,fq,mq,iq⟩:=info_parts info3;subst hn;obtain ⟨A,cap',he,hl,Kq,hc⟩:=hv.opened;injection he with e1 _ e3;subst e1 e3;have hx:=Ext.box w (.cells #[] 3);have Yq:Q0n (w.alloc (.cells #[] 3)) w.heap.size 3 (Value.int .i64) (.slice (some ⟨w.heap.size,0,none⟩) 0 0) []:=World.ownsRow_made w #[] 0 (Nat.le_refl _) (by unfold maxLen; omega) rfl
 have Z3:Hid (∀ j u,(l.map (Value.int .i64))[j]?=some u -> (w.alloc (.cells #[] 3)).cell? (a.add j)=some u):=hid (by
  intro j u hj;rw [List.getElem?_map] at hj;obtain ⟨y,hy,rfl⟩:=Option.map_eq_some_iff.1 hj;obtain ⟨Zj,rfl⟩:=List.getElem?_eq_some_iff.1 hy;obtain ⟨b,off,he,Xq⟩:=hc j Zj;cases he;rw [addr_add,hx.cell Xq,Q5i Zj])
 have bj:Hid (∀ u ∈ l.map (Value.int .i64),u.oneCell'=true):=hid (by intro u hu; obtain ⟨y,_,rfl⟩:=List.mem_map.1 hu; rfl)
 have V8:Hid ((l.map (Value.int .i64)).length=l.length * 1):=hid (by simp)
 clear hv hc;go_enter func158,ntmps158;go_wp2_with (at_builtin; refine wpList_append_own _ rfl _ _ 166 rfl (w.heap.size) 3 i0 (.int .i64 0) 1 8 underlying166 hi fq mq iq rfl (by decide) _ _ _ rfl Yq a l.length Qq (l.map (Value.int .i64)) rfl V8.out Z3.out bj.out ?_ ?_ ?_ ?_; (focus (unfold maxLen; simp; omega)); (focus (simp; omega)); (focus (simp)); intro v' w4 Oq Pq _; refine halted ?_)
 have Uv:Ext w w4:=Below.trans hx (below_grown Yq Pq (Nat.le_refl _) hx.size);have Y6:Q0n w4 w.heap.size 3 (.int .i64) v' l:=by
  unfold Q0n;rw [show l.length=0 + l.length from (Nat.zero_add _).symm]
  exact Oq
 clear Oq Pq Yq hx;unfold Q1o;go_wp2;go_ret;exact ⟨_,rfl,Y6,Uv⟩
theorem Tryz.J4l:(prog.info? 166).map (fun i=>(i.zero,i.size,i.bytes))=some (some (.slice none 0 0),1,24):=by kernel_rfl
theorem Z1z {W W':World} {base:Nat} {v:Value} {vs us:List Value} {ll:List (List Int)} (h:Q0n W base 166 idV v us) (hs:Sets W vs ll) (hg:W.grownBy W' v.ownBlock):Sets W' vs ll:=by
 refine hs.at fun u l hu b hb jx=>hg.block b jx fun e=>?_;obtain ⟨h1,h2⟩:=h
 rcases h2 with ⟨rfl,_⟩ | ⟨g,Qq,cur,rfl,Qx,yy,r⟩
 . cases e
 . have:b=g:=by simpa [Value.ownBlock] using e
   subst this;exact Y6n hu yy hb
theorem Q7f {α:Type} {W W':World} {base:Nat} {e:TypeId} {enc:α -> Value} {v:Value} {l:List α} {g:Nat} {T:TypeId} {cs:Array Value} (hb:Blk W g T cs) (h:Q0n W base e enc v l) (hT:T ≠ e) (hg:W.grownBy W' v.ownBlock):Blk W' g T cs:=by
 have ux:=hb;unfold Blk at hb ⊢;refine (hg.block g (Array.getElem?_eq_some_iff.1 hb).1 fun e'=>?_).trans hb;obtain ⟨h1,h2⟩:=h
 rcases h2 with ⟨rfl,_⟩ | ⟨g',Qq,cur,rfl,Qx,yy,r⟩
 . cases e'
 . have:g=g':=by simpa [Value.ownBlock] using e'
   subst this;rw [hb] at yy;injection yy with h;injection h with _ h;exact hT h
theorem Q9g (w:World) (v:Value) (s:Q0b) (hv:Q0g w v s) (hS:Q0w s) :
    Calls prog 99 #[v] w fun e w'=>∃ x,e=.returned x /\ Q4g w' x s.hist /\ Ext w w':=by
 obtain ⟨i0,hi,fq,mq,iq⟩:=info_parts J4l;have h8:=hS.some;have h6:=hS.tides;have HS:=hid hS;obtain ⟨a,b,rfl,h2⟩:=hv;obtain ⟨A,Uq,rfl,-,-,-⟩:=h2.ships.opened;obtain ⟨B,Wq,rfl,-,-,-⟩:=h2.members.opened;have H2:=hid h2;clear h2 hS;go_enter func99,ntmps99;go_wp2_with fail;change Code.wp _ _ _ _ (w.alloc (.cells #[.int .i64 s.limit,.slice A s.ships.length Uq,.slice B s.members.length Wq] 34));obtain ⟨W,Nq,k0,Sq,eW⟩:=Q1y w 34 #[.int .i64 s.limit,.slice A s.ships.length Uq,.slice B s.members.length Wq];rw [Nq];clear Nq;have K0:=hid k0;have c0_2:=k0.cell 2;simp only [Go.Tw.gA,Go.Tw.gB,Go.Tw.gC] at c0_2;clear k0;go_wp2;clear c0_2
 go_loopw [3,10] (fun o iv wr=>∃ (i:Nat) (vs:List Value),i <= s.members.length /\ iv=.int .i64 i /\ Q0n wr W.heap.size 166 idV o vs /\ Sets wr vs (Y7d s i) /\ Ext W wr) (fun _ i _=>s.members.length - (intOf i).toNat)
 case atStart=>exact ⟨0,[],Nat.zero_le _,rfl,Q0n.nil _ _ _ _,Sets.nil _,Ext.refl _⟩
 case round =>
  obtain ⟨i,vs,yz,rfl,Yq,Ck,Dq⟩:=hrel;have rq:=hid Dq;have lq:=hid Yq;have Mz:=hid Ck;clear Yq Ck
  by_cases Tq:i < s.members.length
  . have H3:=H2.out.ext (Sq.out.trans Dq)
    have H4:=H2.out.ext Sq.out;obtain ⟨_,_,hB,_,_,hc⟩:=H3.members.opened;cases hB;obtain ⟨bm,off,x,y,z,rfl,Wv,e0,e1,e2,e3,e4,hx,hy,hz,Aj⟩:=hc i Tq;have Ef:Q0e W x (Q0c s.members i):=by
     obtain ⟨_,_,TK,_,_,GQ⟩:=H4.members.opened;cases TK;obtain ⟨bm',off',x',y',z',Vx,_,f0,f1,f2,f3,f4,hx',_⟩:=GQ i Tq;cases Vx;have:=Dq.cell f2;rw [e2] at this;cases this;exact hx'
    have P9:=hid Ef;obtain ⟨X,Rq,rfl,-,L5,M8⟩:=hx.opened;obtain ⟨Y,Jq,rfl,-,-,-⟩:=hy.opened;obtain ⟨Z,Bq,rfl,-,-,-⟩:=hz.opened;have hT:=(HS.out.shaped i Tq).1;have Df:=hid (Y4j s Tq);have ik:=hid (Y0c HS.out i yz);obtain ⟨nm,vj⟩:∃ x,Q1t s.members i=x:=⟨_,rfl⟩;obtain ⟨wt,Vj⟩:∃ x,Q0o s.members i=x:=⟨_,rfl⟩;obtain ⟨lc,mj⟩:∃ x,Q0c s.members i=x:=⟨_,rfl⟩;obtain ⟨lo,Lx⟩:∃ x,Q0z s.members i=x:=⟨_,rfl⟩;obtain ⟨li,yx⟩:∃ x,Q1g s.members i=x:=⟨_,rfl⟩;rw [vj] at e0;rw [Vj] at e1;rw [mj] at e2 P9 Df hT L5 M8;rw [Lx] at e3;rw [yx] at e4;have J1:(i:Int) < s.members.length:=by omega
    have pa:0 < lc.length:=by omega
    obtain ⟨bX,oX,hX,-⟩:=M8 0 pa;subst hX;have yq:=Ext.box wr (.cells #[.string nm,.int .i64 wt,.slice (some ⟨bX,oX,none⟩) lc.length Rq,.slice Y lo.length Jq,.slice Z li.length Bq] 69);have K3:=Blk.made wr 69 #[.string nm,.int .i64 wt,.slice (some ⟨bX,oX,none⟩) lc.length Rq,.slice Y lo.length Jq,.slice Z li.length Bq];have d2:=K3.cell 2;simp only [Go.Tw.gA,Go.Tw.gB,Go.Tw.gC] at d2;obtain ⟨T,ma⟩:∃ T,s.ships.length=T:=⟨_,rfl⟩;have la:=hid ma;have zj:=hid yq;have V4:=hid (lq.out.below yq);have vy:=hid (Mz.out.ext yq);have Dg:=hid K3;rw [ma] at hT ik;have HT:=hid hT;clear hc H3 H4 Ef hx hy hz Aj vj Vj mj Lx yx Wv yq K3 M8 hT ma
    go_light
    go_wp2;obtain ⟨V,hV⟩:∃ V,wr.alloc (.cells #[.string nm,.int .i64 wt,.slice (some ⟨bX,oX,none⟩) lc.length Rq,.slice Y lo.length Jq,.slice Z li.length Bq] 69)=V:=⟨_,rfl⟩;obtain ⟨gb,Jw⟩:∃ x,wr.heap.size=x:=⟨_,rfl⟩;rw [hV] at zj V4 vy Dg ⊢;rw [Jw] at Dg ⊢;clear hV Jw d2 e0 e1 e2 e3 e4;have Kg:=hid (Dq.trans zj.out);clear Dq
    go_loopw [3,17] (fun o tv wr=>∃ (t:Nat) (vs:List Value),t <= lc.length /\ tv=.int .i64 t /\ Q0n wr W.heap.size 166 idV o vs /\ Sets wr vs (Y7d s i ++ Y5j lc t) /\ Blk wr gb 69 #[.string nm,.int .i64 wt,.slice (some ⟨bX,oX,none⟩) lc.length Rq,.slice Y lo.length Jq,.slice Z li.length Bq] /\ Ext W wr) (fun _ t _=>lc.length - (intOf t).toNat)
    case atStart=>exact ⟨0,vs,Nat.zero_le _,rfl,V4.out,by rw [show Y5j lc 0=[] from rfl,List.append_nil]; exact vy.out,Dg.out,Kg.out⟩
    case round =>
     obtain ⟨t,vs,Q1,rfl,Yq,Ck,qj,Gx⟩:=hrel;have Zy:vs.length <= 4096:=by
      have h1:=Ck.1;have h2:=ik.out;rw [List.length_append,Y9f,h2] at h1;have h3:i * T <= 8 * 6:=Nat.mul_le_mul (by omega) (by have:=la.out; omega)
      have:=HT.out;have:=la.out;omega
     by_cases ym:t < lc.length
     . have xm:lc.length <= 6:=by have:=HT.out; have:=la.out; omega
       have d2:=qj.cell 2;simp only [Go.Tw.gA,Go.Tw.gB,Go.Tw.gC] at d2;have Gj:=hid (Z7j lc t);have Sw:=hid (X0p (P9.out.ext Gx) (show t + 1 <= lc.length by omega))
       have Gk:Hid ((lc.take (t + 1)).length=t + 1):=hid (by rw [List.length_take]; omega)
       obtain ⟨lp,R9⟩:∃ x,lc.take (t + 1)=x:=⟨_,rfl⟩;rw [R9] at Gj Sw Gk;have l7:(t:Int) + 1 <= (Rq:Int):=by omega
       have Y5:¬ ((0:Int) <= (t:Int) + 1 -> (Rq:Int) < (t:Int) + 1):=by omega
       have V5:¬ Rq=0:=by omega
       have U5:¬ (t:Int) + 1 < 0:=by omega
       have T5:((t:Int) + 1).toNat=t + 1:=by omega
       have Z2:IntKind.i64.wrap ((t:Int) + 1)=(t:Int) + 1:=Q3b _ (by omega) (by omega)
       have MG:(t:Int) < lc.length:=by omega
       have HO:=hid Yq;have SJ:=hid Ck;have Ng:=hid qj;clear Yq Ck qj R9
       go_light
       go_wp2_with (first | (go_at_call 158; refine (Z8s _ _ _ _ lp Sw.out Gk.out.symm (by rw [Gk.out]; omega)).mono ?_; rintro e w5 ⟨u,rfl,hu,Cq⟩; obtain ⟨bu,cu,Cf,-⟩:=hu.shape; rw [Gk.out] at Cf; subst Cf; have HU:=hid hu; have Yq:=HO.out.below Cq; have Kj:=Gx.trans Cq; have vq:=hid Cq; clear hu) | (at_builtin; refine wpList_append_own _ rfl _ _ 168 rfl (W.heap.size) 166 i0 (.slice none 0 0) 1 24 underlying168 hi fq mq iq rfl (by decide) _ _ _ rfl (World.ownsRow.alloc Yq _) ⟨w5.heap.size,0,none⟩ 1 1 [.slice bu (t + 1) cu] rfl rfl ?_ ?_ ?_ ?_ ?_ ?_; exact Q4d _ _ _; (focus (simp [Value.oneCell'])); (focus (unfold maxLen; omega)); (focus omega); (focus (have:=Kj.size; simp at this ⊢; omega)); intro v' w1 Oq Pq _))
       have hx':=Q2d Kj Yq (Nat.le_refl _) Pq;have pj:=Ext.box w5 (.cells #[.slice bu (t + 1) cu] 166);have J5:=Z1z (Yq.below pj) (((SJ.out.ext vq.out).snoc (HU.out.weaken (Nat.zero_le _)) (by rw [Gk.out]; omega)).ext pj) Pq
       have YY:=Q7f ((Ng.out.ext vq.out).ext pj) (Yq.below pj) (by decide) Pq
       have pG:=hid J5;have T8:=hid YY;clear J5 YY;go_roundw
       case rel=>exact ⟨t + 1,vs ++ [.slice bu (t + 1) cu],by omega,by go_num,Q0n.snoc (x:=Value.slice bu (t + 1) cu) Oq,by rw [Gj.out,<- List.append_assoc]; exact pG.out,T8.out,hx'⟩
       case measure=>simp [intOf]; omega
     . have ka:t=lc.length:=by omega
       subst ka;have HO:=hid Yq;have SJ:=hid Ck;clear Yq Ck qj;go_wp2;go_roundw
       case rel=>exact ⟨i + 1,vs,by omega,by go_num,HO.out,by rw [Df.out]; exact SJ.out,Gx⟩
       case measure=>simp [intOf]; omega
  . have ja:i=s.members.length:=by omega
    subst ja;have ia:=hid (Z9p s);have DK:=Y0c HS.out _ (Nat.le_refl _);have Zy:vs.length=s.members.length * s.ships.length:=by rw [Mz.out.1,DK]
    have Pf:1 <= s.members.length * s.ships.length:=Nat.mul_le_mul h8.1 h6.1;have rW:s.members.length * s.ships.length <= 8 * 6:=Nat.mul_le_mul h8.2 h6.2;obtain ⟨N,hN⟩:∃ N,s.members.length * s.ships.length=N:=⟨_,rfl⟩;rw [hN] at DK Zy Pf rW;obtain ⟨h1,h2⟩:=lq.out
    rcases h2 with ⟨_,h2⟩ | ⟨g,Qq,cur0,hv,Qx,hg,Bf,-⟩
    . exfalso; omega
    subst hv;clear h1 hg;rw [ia.out] at Mz DK;have Y8:=hid DK;have W6:=hid (J3q wr g Qq W.heap.size vs s.Y1h lq.out Mz.out (by omega))
    have RY:vs.length=N:=Zy;rw [RY];rw [DK] at W6;clear hN Zy;go_wp2_with (go_at_call 159; refine W6.out.mono ?_; rintro e w5 ⟨rfl,ll',cur,vs',hp,jZ,QY,mX⟩; refine halted ?_);have Mv:ll'.length=N:=by rw [hp.length_eq]; exact Y8.out
    have By:ll'.length <= cur.length:=by
     have h1:=congrArg List.length QY.2.1;rw [List.length_take] at h1;have h2:=QY.2.2.1;omega
    have D5:=Z2t w5 g Qq cur vs' ll' (by omega) (by omega) (by omega) By jZ QY
    rw [Mv] at D5;have ga:=hid D5;have HP:=hid hp;have um:=hid mX;have CK:=hid Dq;clear D5 hp jZ QY mX Dq By Mv lq Mz W6;unfold Q1o;go_wp2_with (go_at_call 161; refine ga.out.mono ?_; rintro e w6 ⟨r,rfl,tm,ha,hm,-,rm⟩);go_ret;have hr:r=s.hist:=Q0b.J8d (fun k hk=>HS.out.shaped k hk) ha (fun x=>by rw [hm x]; exact HP.out.mem_iff)
    subst hr;have hg:=Q9h um.out rm;exact ⟨_,rfl,tm,Sq.out.trans (Below.grown CK.out hg CK.out.size (fun k hk=>by cases hk; exact Qx))⟩
end Go.Proofs
namespace Go.Proofs
open Go.RowKit Go.Tw Go.Flow Tryz
attribute [local go_sem] Oper.semAt_some
theorem Z6q (w:World) (u v:Value) (a b:List Int) (hu:Q0e w u a) (hv:Q0e w v b) :
    Calls prog 175 #[u,v] w fun e w'=>e=.returned (.bool (decide (a=b))) /\ Ext w w':=by
 obtain ⟨A,Uq,rfl,Ov,Mw,Vz⟩:=hu.opened;obtain ⟨B,Wq,rfl,Nv,jz,Rj⟩:=hv.opened;clear hu hv;go_enter func175,ntmps175
 by_cases hl:a.length=b.length
 . have hne:((a.length:Int) != (b.length:Int))=false:=by simp [hl]
   go_wp2
   go_loopw [13] (fun i wr=>∃ k:Nat,k <= a.length /\ i=.int .i64 k /\ decide (a.drop k=b.drop k)=decide (a=b) /\ Ext w wr) (fun i _=>a.length - (intOf i).toNat)
   case atStart=>exact ⟨0,Nat.zero_le _,rfl,rfl,Ext.refl _⟩
   case round =>
    obtain ⟨k,hk,rfl,hr,hx⟩:=hrel;have HR:=hid hr; clear hr
    by_cases Tq:k < a.length
    . have Mx:k < b.length:=by omega
      obtain ⟨b1,off1,rfl,Rx⟩:=Vz k Tq;obtain ⟨b2,off2,rfl,Xx⟩:=Rj k Mx;replace Rx:=hx.cell Rx;replace Xx:=hx.cell Xx;have N1:=hid (Q2v Tq);have Fy:=hid (Q2v Mx);clear Vz Rj
      by_cases h0:ix a k=ix b k
      . have Yj:(ix a k != ix b k)=false:=by simp [h0]
        have H0:=hid h0; clear h0;go_wp2
        go_quiet (fail)
        all_goals go_wp2
        go_roundw
        case rel=>exact ⟨k + 1,by omega,by go_num,by rw [<- HR.out,N1.out,Fy.out,X0c H0.out],hx.drewN _⟩
        case measure=>simp [intOf]; omega
      . have Yj:(ix a k != ix b k)=true:=by simp [h0]
        have H0:=hid h0; clear h0;go_wp2
        go_quiet (fail)
        all_goals go_wp2
        go_ret;exact ⟨Q0x (by rw [<- HR.out,N1.out,Fy.out,X0b H0.out]),hx.drewN _⟩
    . clear Vz Rj
      go_wp2;go_ret;exact ⟨Q0x (by rw [<- HR.out,List.drop_eq_nil_of_le (by omega),List.drop_eq_nil_of_le (by omega)]; rfl),hx⟩
 . have hne:((a.length:Int) != (b.length:Int))=true:=by simp; omega
   have HL:Hid (decide (a=b)=false):=hid (decide_eq_false (fun h=>hl (by rw [h])))
   clear hl Vz Rj;go_wp2;go_ret;exact ⟨Q0x (by rw [HL.out]),Ext.refl _⟩
theorem Tryz.Q6t (w:World):(isAgg 38).run prog w=.ok true w:=by kernel_rfl
theorem Tryz.Q4b (w:World):(sizeOf 38).run prog w=.ok 1 w:=by kernel_rfl
theorem Tryz.J3n (w:World):(sizeOf 167).run prog w=.ok 2 w:=by kernel_rfl
theorem Z0p {h:List (List Int)} {p:List Rul} (hl:¬ p.length=h.length):Q0q h p=2:=if_pos hl
theorem Z4n {h:List (List Int)} {p:List Rul} (hl:p.length=h.length) {k:Nat} (hk:k < p.length) (hne:¬ Q0k p k=h.getD k []):Q0q h p=11:=by
 unfold Q0q;rw [if_neg (fun hn=>hn hl),if_pos];intro e
 apply hne
 rw [<- e];unfold Q0k;rw [Q0t _ hk]; simp [hk]
theorem Y9g {h:List (List Int)} {p:List Rul} (hl:p.length=h.length) (ha:∀ j,j < p.length -> Q0k p j=h.getD j []):Q0q h p=0:=by
 rw [Q2p]
 apply List.ext_getElem
 . simp [hl]
 . intro i h1 h2
   have hi:i < p.length:=by simpa using h1
   have:=ha i hi;unfold Q0k at this;rw [Q0t _ hi] at this;simp only [List.getElem_map];rw [this]; simp [h2]
theorem X2b (w:World) (v u:Value) (s:Q0b) (p:List Rul) (hv:Q0g w v s) (hu:Q0m w u p) (hS:Q0w s) (hp:p.length <= 1000) :
    Calls prog 132 #[v,u] w fun e w'=>e=.returned (.int .i64 (Q0q s.hist p)) /\ Ext w w':=by
 obtain ⟨a,b,rfl,h2⟩:=hv;obtain ⟨rv,rfl,hr⟩:=hu;obtain ⟨A,Uq,rfl,-,-,-⟩:=h2.ships.opened;obtain ⟨B,Wq,rfl,-,-,-⟩:=h2.members.opened;obtain ⟨R,Gq,rfl,-,-,Kx⟩:=hr.opened;have Uw:=hid Kx;have J7:Hid (∀ w',Ext w w' -> Calls prog 99 #[.agg #[.int .i64 s.limit,.slice A s.ships.length Uq,.slice B s.members.length Wq]] w' fun e w''=>∃ x,e=.returned x /\ Q4g w'' x s.hist /\ Ext w' w''):=hid (fun w' hx=>Q9g w' _ s ⟨_,_,rfl,h2.ext hx⟩ hS);have jX:=X8p hS;obtain ⟨h,hh⟩:∃ x,s.hist=x:=⟨_,rfl⟩;rw [hh] at J7 jX ⊢;have ik:=hid (Z0p (h:=h) (p:=p));have ia:Hid (p.length=h.length -> ∀ k,k < p.length -> ¬ Q0k p k=h.getD k [] -> Q0q h p=11):=hid (fun hl k hk hn=>Z4n hl hk hn);have qm:=hid (Y9g (h:=h) (p:=p));clear h2 hS hr Kx hh;go_enter func132,ntmps132;go_wp2_with fail;change Calls _ _ _ ((w.alloc (.cells #[.int .i64 s.limit,.slice A s.ships.length Uq,.slice B s.members.length Wq] 34)).alloc (.cells #[.slice R p.length Gq] 38)) _;obtain ⟨W,Nq,k0,k1,Sq,eW⟩:=Q3p w 34 #[.int .i64 s.limit,.slice A s.ships.length Uq,.slice B s.members.length Wq] 38 #[.slice R p.length Gq];rw [Nq];clear Nq;have K0:=hid k0;have K1:=hid k1;obtain ⟨gs,bq⟩:∃ x,w.heap.size=x:=⟨_,rfl⟩;rw [bq] at K0 K1 eW ⊢;clear k0 k1;refine (J7.out W Sq.out).mono ?_;rintro e w5 ⟨x,rfl,hx,Cq⟩;obtain ⟨H,fa,rfl,-,-,T7⟩:=hx.opened;have c1:=(K1.out.ext Cq).cell 0;simp only [Go.Tw.gA,Go.Tw.gB] at c1;have PY:=hid T7;have vq:=hid (Sq.out.trans Cq);have L8:=hid (K1.out.ext Cq);clear hx T7 Cq
 by_cases hl:p.length=h.length
 . have hne:((p.length:Int) != (h.length:Int))=false:=by simp [hl]
   have HL:=hid hl;clear hl;go_wp2;clear c1
   go_loopw [19] (fun i wr=>∃ k:Nat,k <= p.length /\ i=.int .i64 k /\ (∀ j,j < k -> Q0k p j=h.getD j []) /\ Ext w5 wr) (fun i _=>p.length - (intOf i).toNat)
   case atStart=>exact ⟨0,Nat.zero_le _,rfl,fun j hj=>by omega,Ext.refl _⟩
   case round =>
    obtain ⟨k,hk,rfl,oq,Dq⟩:=hrel;have zx:=hid oq;clear oq
    by_cases Tq:k < p.length
    . obtain ⟨br,orr,xr,rfl,_,lj,Yj,Zx⟩:=Uw.out k Tq
      obtain ⟨Xr,cxr,rfl,-,-,-⟩:=Zx.opened;obtain ⟨bh,oh,xh,rfl,_,aa,OY⟩:=PY.out k (by have:=HL.out; omega)
      obtain ⟨Xh,cxh,rfl,-,-,-⟩:=OY.opened;have KQ:=ia.out HL.out k Tq;obtain ⟨cl,hcl⟩:∃ x,Q0k p k=x:=⟨_,rfl⟩;obtain ⟨cb,Rj⟩:∃ x,Q3a p k=x:=⟨_,rfl⟩;obtain ⟨sx,AQ⟩:∃ x,h.getD k []=x:=⟨_,rfl⟩;rw [hcl] at lj Zx KQ;rw [Rj] at Yj;rw [AQ] at aa OY KQ;obtain ⟨q,hq⟩:∃ q,decide (cl=sx)=q:=⟨_,rfl⟩;have HQ:=hid hq;have Pg:=hid KQ;have C2:Hid (cl=sx -> ∀ j,j < k + 1 -> Q0k p j=h.getD j []):=hid (fun he j hj=>by
       by_cases C3:j=k
       . subst C3; rw [hcl,AQ]; exact he
       . exact zx.out j (by omega))
      have yq:=Ext.box wr (.cells #[.slice Xr cl.length cxr,.bool cb] 167);have K3:=Blk.made wr 167 #[.slice Xr cl.length cxr,.bool cb];have D4:=hid (Zx.ext (vq.out.trans (Dq.trans yq)));have BK:=hid (OY.ext (Dq.trans yq));replace lj:=(vq.out.trans Dq).cell lj;replace Yj:=(vq.out.trans Dq).cell Yj;have iX:=(Dq.trans yq).cell aa;have d0:=K3.cell 0;simp only [Go.Tw.gA,Go.Tw.gB] at d0;have Lj:(k:Int) < p.length:=by omega
      have Pr:(k:Int) < h.length:=by have:=HL.out; omega
      have zj:=hid (Dq.trans yq);clear Zx OY KQ hcl Rj AQ hq aa
      go_light
      go_wp2;obtain ⟨V,hV⟩:∃ V,wr.alloc (.cells #[.slice Xr cl.length cxr,.bool cb] 167)=V:=⟨_,rfl⟩;rw [hV] at zj D4 BK iX d0 yq ⊢;have Vq:=(Ext.refl V).drew;clear hV K3 yq Dq lj Yj;refine Flow.Q1h [.p,.w,.p,.p,.p,.w,.w,.p] [0,1,2,3,4,5,6,7] [[],[0],[],[],[2,3],[4],[1,5],[6]]
       [.c 0 (.pointer (some ⟨wr.heap.size,0,none⟩)),.c 1 (.slice Xr cl.length cxr),.c 2 (.slice (some ⟨bh,oh,none⟩) h.length fa),.c 3 (.int .i64 (k:Int)),.c 4 (.pointer (some ⟨bh,oh + k,none⟩)),.c 5 (.slice Xh sx.length cxh),.c 6 (.bool q),.c 7 (.bool (!q))]
       (by kernel_rfl) rfl (by kernel_rfl) ⟨?g0,?g1,?g2,?g3,?g4,?g5,?g6,?g7,trivial⟩ ?post
      case g0 | g2 | g3=>
       intro v w1 hx;intro bb hbb;subst hbb;refine ⟨_,fun w=>?_,rfl⟩;go_simp
      case g1 | g5=>
       intro v w1 hx;(repeat intro (zq:v _=_));intro bb hbb;subst hbb;have d0:=hx.cell d0;have iX:=hx.cell iX;intro K hK;go_simp;exact hK _ _ (Ext.refl _) rfl
      case g4 | g7=>
       intro v w1 hx;(repeat intro (zq:v _=_));intro bb hbb;subst hbb;refine ⟨_,fun w=>?_,rfl⟩;go_simp
      case g6=>
       intro v w1 hx;(repeat intro (zq:v _=_));intro bb hbb;subst hbb;have d0:=hx.cell d0;have iX:=hx.cell iX;intro K hK;go_simp;refine Q0d (Z6q w1 _ _ cl sx (D4.out.ext (Vq.trans hx)) (BK.out.ext (Vq.trans hx))) ?_;rintro e w2 ⟨rfl,Mq⟩;rw [HQ.out];exact ⟨_,rfl,hK _ _ Mq rfl⟩
      case post =>
       intro v w1 hx;(iterate 8 intro (zq:v _=_));simp only [Flow.All,Flow.acts,Act.put];go_simp;have ij:=hid (zj.out.trans (Vq.trans hx));clear hx Vq d0 iX;(repeat clear zq);cases q with
       | true =>
         have Zb:=hid (C2.out (of_decide_eq_true HQ.out));go_wp2;go_roundw
         case rel=>exact ⟨k + 1,by omega,by go_num,Zb.out,ij.out⟩
         case measure=>simp [intOf]; omega
       | false =>
         have Zb:=hid (Pg.out (of_decide_eq_false HQ.out));go_wp2;go_ret;exact ⟨Q1c Zb.out.symm,vq.out.trans ij.out⟩
    . have HZ:Hid (Q0q h p=0):=hid (qm.out HL.out (fun j hj=>zx.out j (by omega)))
      go_wp2;go_ret;exact ⟨Q1c HZ.out.symm,vq.out.trans Dq⟩
 . have hne:((p.length:Int) != (h.length:Int))=true:=by simp; omega
   have HL:=hid (ik.out hl);clear hl;go_wp2;go_ret;exact ⟨Q1c HL.out.symm,vq.out⟩
theorem Q5e (w:World) (v u:Value) (s:Q0b) (p:List Rul) (hv:Q0g w v s) (hu:Q0m w u p) (hs:Q3v s) (hp:p.length <= 1000) :
    Calls prog 61 #[v,u] w fun e w'=>e=.returned (.int .i64 (Q1j s p)) /\ Ext w w':=by
 obtain ⟨a,b,rfl,h2⟩:=hv;obtain ⟨rv,rfl,hr⟩:=hu;obtain ⟨A,Uq,rfl,-,-,-⟩:=h2.ships.opened;obtain ⟨B,Wq,rfl,-,-,-⟩:=h2.members.opened;obtain ⟨R,Gq,rfl,-,-,-⟩:=hr.opened;have H2:=hid h2;have HR:=hid hr;have HS:=hid hs;clear h2 hr hs;go_enter func61,ntmps61;go_wp2_with fail;change Calls _ _ _ ((w.alloc (.cells #[.int .i64 s.limit,.slice A s.ships.length Uq,.slice B s.members.length Wq] 34)).alloc (.cells #[.slice R p.length Gq] 38)) _;obtain ⟨W,Nq,k0,k1,Sq,eW⟩:=Q3p w 34 #[.int .i64 s.limit,.slice A s.ships.length Uq,.slice B s.members.length Wq] 38 #[.slice R p.length Gq];rw [Nq];clear Nq;have K0:=hid k0;have K1:=hid k1;clear k0 k1;refine (Q1x _ _ s ⟨_,_,rfl,H2.out.ext Sq.out⟩ HS.out).mono ?_;rintro e w5 ⟨rfl,Cq⟩;have vq:=hid (Sq.out.trans Cq)
 by_cases he:s.err=0
 . have HV:=hid (Q0w.of he)
   have Ex:Hid (Q1j s p=Q0q s.hist p):=hid (if_neg (fun hn=>hn he));have hne:(s.err != 0)=false:=by simp [he]
   obtain ⟨E,hE⟩:∃ E,s.err=E:=⟨_,rfl⟩;have c0:=(K0.out.ext Cq).cell 0;have c1:=(K0.out.ext Cq).cell 1;have c2:=(K0.out.ext Cq).cell 2;simp only [Go.Tw.gA,Go.Tw.gB,Go.Tw.gC] at c0 c1 c2;have d0:=(K1.out.ext Cq).cell 0;simp only [Go.Tw.gA,Go.Tw.gB] at d0;rw [hE] at hne ⊢;clear he hE Cq;go_wp2_with (go_at_call 132; refine (X2b _ _ _ s p ⟨_,_,rfl,H2.out.ext vq.out⟩ ⟨_,rfl,HR.out.ext vq.out⟩ HV.out hp).mono ?_; rintro e w6 ⟨rfl,Kj⟩);go_ret;exact ⟨Q1c Ex.out.symm,vq.out.trans Kj⟩
 . have Ex:Hid (Q1j s p=s.err):=hid (if_pos he)
   have hne:(s.err != 0)=true:=by simp [he]
   obtain ⟨E,hE⟩:∃ E,s.err=E:=⟨_,rfl⟩;rw [hE] at hne Ex ⊢;clear he hE Cq;go_wp2;go_ret;exact ⟨Q1c Ex.out.symm,vq.out⟩
theorem Tryz.K0c:(prog.info? 115).map (fun i=>(i.zero,i.size,i.bytes))=some (some (.agg #[.slice none 0 0,.bool false]),2,32):=by kernel_rfl
def X0s (q:Value × Rul):List Value:=[q.1,.bool q.2.close]
theorem Q7v (q:Value × Rul):(X0s q).length=2:=rfl
theorem Y4l {w w0:World} {B:Nat} {T:TypeId} {v:Value} {qs:List (Value × Rul)} (h:Q1b w B T 2 X0s v qs) (hl:qs.length <= 100000) (hr:∀ q ∈ qs,Q0e w0 q.1 q.2.classes) (hx:Ext w0 w):Q1d w v (qs.map (·.2)):=by
 refine h.rowsOf (by simp) (by simp; omega) Q7v (fun j h1 h2=>?_) (fun c c' x hc h=>?_)
 . have hq:=List.getElem_mem h1
   simp only [List.getElem_map];exact ⟨(hr _ hq).ext hx,rfl⟩
 . exact ⟨by rw [<- hc 0 (by omega)]; exact h.1,by rw [<- hc 1 (by omega)]; exact h.2⟩
theorem Y8m {w w':World} {base n size B:Nat} {e:TypeId} {v:Value} {xs:List Value} {o:Obj} (Yq:w.ownsRow base e size v n xs) (hg:(w.alloc o).grownBy w' v.ownBlock) (hb:B <= base) (hB:B <= w.heap.size):Below B w w' :=
 Below.grown ((Below.refl B w).alloc hB o) hg (by simp; omega) (fun k hk=>Nat.le_trans hb (Yq.lt k hk).1)
theorem _root_.Go.Tw.Q1b.X4b {α:Type} {w:World} {base k:Nat} {e:TypeId} {enc:α -> List Value} {v:Value} {l:List α} (h:Q1b w base e k enc v l) {p:Addr} (hp:p.block < base) (u:Value):Q1b (w.setCell p u) base e k enc v l:=h.only hp (Q3x _ _ _)
theorem _root_.Go.Tw.Ext.X8l {w w':World} (h:Ext w w') {p:Addr} (hp:w.heap.size <= p.block) (u:Value):Ext w (w'.setCell p u):=Below.setCell h hp u
theorem Y5b (w:World) (v:Value) (p:List Rul) (hv:Q0m w v p) (hl:p.length <= 4096) :
    Calls prog 26 #[v] w fun e w'=>∃ u,e=.returned u /\ Q0m w' u p /\ Ext w w':=by
 obtain ⟨i0,hi,fq,mq,iq⟩:=info_parts K0c;obtain ⟨a,rfl,h2⟩:=hv;obtain ⟨A,Qq,rfl,-,Kq,hc⟩:=h2.opened;have HC:=hid hc;obtain ⟨n,hn⟩:∃ n,p.length=n:=⟨_,rfl⟩;have HN:=hid hn;rw [hn] at hl HC ⊢;clear h2 hc hn Kq;go_enter func26,ntmps26;go_wp2_with fail;obtain ⟨W,Nq,k0,k1,k2,Sq,eW⟩:=Q9s w 38 #[.slice A n Qq] 47 #[.slice none 0 0] 47 #[.slice none 0 0];rw [Nq];clear Nq;obtain ⟨gp,Yk⟩:∃ x,w.heap.size=x:=⟨_,rfl⟩;have Ag:=hid Yk;rw [Yk] at k1 k2 eW ⊢;have K1:=hid k1;clear k0 k1 Yk
 go_loopw [9] (fun i wr=>∃ (k:Nat) (vo:Value) (qs:List (Value × Rul)),k <= n /\ i=.int .i64 k /\ Blk wr (gp + 1 + 1) 47 #[vo] /\ Q1b wr (gp + 1 + 1 + 1) 115 2 X0s vo qs /\ qs.map (·.2)=p.take k /\ (∀ q ∈ qs,Q0e w q.1 q.2.classes) /\ Below (gp + 1 + 1) W wr /\ gp + 1 + 1 + 1 <= wr.heap.size) (fun i _=>n - (intOf i).toNat)
 case atStart=>exact ⟨0,_,[],Nat.zero_le _,rfl,k2,Q1b.nil _ _ _ _ _,rfl,(fun q hq=>by simp at hq),Below.refl _ _,by omega⟩
 case round =>
  obtain ⟨k,vo,qs,hk,rfl,Dz,Yq,Lz,RJ,dq,pq⟩:=hrel;have Dq:Ext w wr:=Below.trans Sq.out (dq.mono (by have:=Ag.out; omega))
  have rz:qs.length=k:=by rw [<- List.length_map (f:=(·.2)),Lz,List.length_take,HN.out]; omega
  have AK:=hid RJ;have zg:=hid Lz;have N0:=hid dq
  by_cases Tq:k < n
  . have Lj:(k:Int) < n:=by omega
    obtain ⟨b,off,x,rfl,hb,e0,e1,mz⟩:=HC.out k Tq;replace e0:=Dq.cell e0;replace e1:=Dq.cell e1;obtain ⟨X,Rq,rfl,-,-,-⟩:=mz.opened;have Wx:p.take (k + 1)=p.take k ++ [⟨Q0k p k,Q3a p k⟩]:=by
     rw [List.take_succ_eq_append_getElem (by rw [HN.out]; exact Tq),Q0k,Q3a,Q0t _ (by rw [HN.out]; exact Tq)]
    have HI:=hid mz;have tz:=hid Wx;obtain ⟨cs,Bk⟩:∃ c,Q0k p k=c:=⟨_,rfl⟩;obtain ⟨cb,Rj⟩:∃ c,Q3a p k=c:=⟨_,rfl⟩;rw [Bk] at e0 HI tz;rw [Rj] at e1 tz;have pj:=Ext.box wr (.cells #[.slice X cs.length Rq,.bool cb] 167);have c2:(wr.alloc (.cells #[.slice X cs.length Rq,.bool cb] 167)).cell? ⟨gp + 1 + 1,0,none⟩=some vo:=(Dz.ext pj).cell 0;obtain ⟨wq,rfl⟩:∃ Z,Z=wr:=⟨_,rfl⟩;clear Lz RJ dq Dq mz Wx Bk Rj;go_wp2_with (at_builtin; refine halted ?_);unfold Q1o;have zK:(wq.alloc (.cells #[.slice X cs.length Rq,.bool cb] 167)).heap.size=wq.heap.size + 1:=by simp
    obtain ⟨wb,nz⟩:∃ Z,wq.alloc (.cells #[.slice X cs.length Rq,.bool cb] 167)=Z:=⟨_,rfl⟩;rw [nz] at pj zK ⊢;rw [<- zK];have Cv:=Yq.below pj;have yK:=Dz.ext pj;have Rw:=hid yK;have B3:=hid pj;have QJ:gp + 1 + 1 + 1 <= wb.heap.size:=by omega
    clear Dz Yq nz c2 yK
    (at_builtin; refine wpList_append_own _ rfl _ _ 45 rfl (gp + 1 + 1 + 1) 115 i0 (.agg #[.slice none 0 0,.bool false]) 2 32 underlying45 hi fq mq iq rfl (by decide) _ _ _ rfl (World.ownsRow.alloc Cv _) ⟨wb.heap.size,0,none⟩ 1 1 [.slice X cs.length Rq,.bool cb] rfl rfl ?_ ?_ ?_ ?_ ?_ ?_; exact X8j _ _ _; (focus (simp [Value.oneCell'])); (focus (unfold maxLen; omega)); (focus omega); (focus (have:=pj.size; simp at this ⊢; omega)); intro v' w1 Oq Pq _)
    refine halted ?_;have jx:=Y8m Cv Pq (Nat.le_refl _) QJ;have Fk:=Rw.out.below jx (by omega)
    have c1':w1.cell? ⟨gp + 1 + 1,0,none⟩=some vo:=Fk.cell 0;have f1:=Fk.frozen 0;have Yw:=hid Fk;have Kv:=hid jx;have PJ:Hid (gp + 1 + 1 + 1 <= w1.heap.size):=hid (by have:=jx.size; omega)
    have lq:=hid (show Q1b w1 (gp + 1 + 1 + 1) 115 2 X0s v' (qs ++ [(.slice X cs.length Rq,⟨cs,cb⟩)]) from Q1b.snoc Oq)
    obtain ⟨Av,cv',rfl,-⟩:=lq.out.shape;clear Pq Fk jx Oq Cv pj e0 e1;unfold Q1o;go_wp2;go_roundw
    case rel=>exact ⟨k + 1,_,qs ++ [(.slice X cs.length Rq,⟨cs,cb⟩)],by omega,by go_num,Yw.out.set 0 _,by have h:=lq.out; rw [List.length_append,rz] at h; exact h.X4b (p:=⟨gp + 1 + 1,0,none⟩) (Nat.lt_succ_self _) _,by rw [List.map_append,zg.out,tz.out]; rfl,
     (fun q hq=>by
      rcases List.mem_append.1 hq with hq | hq
      . exact AK.out q hq
      . rw [List.mem_singleton.1 hq]; exact HI.out),
     (Below.trans N0.out (Below.trans (B3.out.mono (by omega)) (Kv.out.mono (Nat.le_succ _)))).setCell (p:=⟨gp + 1 + 1,0,none⟩) (Nat.le_refl _) _,by have:=PJ.out; simp; omega⟩
    case measure=>simp [intOf]; omega
  . have Lj:¬ (k:Int) < n:=by omega
    have nj:k=n:=by omega
    subst nj;have hp:p.take k=p:=by rw [List.take_of_length_le (by rw [HN.out]; omega)]
    obtain ⟨Av,cv',rfl,-⟩:=Yq.shape;rw [rz] at Yq Dz;have Qz:=hid Yq;have V6:=hid rz;have c0:wr.cell? ⟨gp + 1 + 1,0,none⟩=_:=Dz.cell 0;simp only [Go.Tw.gA,Go.Tw.gB] at c0;have sx:=K1.out.below N0.out (by omega)
    have c1:wr.cell? ⟨gp + 1,0,none⟩=some (.slice none 0 0):=sx.cell 0;have f1:=sx.frozen 0;have Rk:=hid sx;have rq:=hid Dq;clear Dz Yq Lz RJ dq Dq sx;go_wp2;refine bodyPost_ret (Q2h results26 rfl (Rk.out.set 0 _) X2l Q7r) rfl ?_;refine ⟨_,rfl,⟨_,rfl,?_⟩,rq.out.X8l (p:=⟨gp + 1,0,none⟩) (by show w.heap.size <= gp + 1; have:=Ag.out; omega) _⟩
    have h:=Y4l (Qz.out.X4b (p:=⟨gp + 1,0,none⟩) (by show gp + 1 < gp + 1 + 1 + 1; omega) (.slice Av k cv')) (by rw [V6.out]; omega) AK.out (rq.out.X8l (p:=⟨gp + 1,0,none⟩) (by show w.heap.size <= gp + 1; have:=Ag.out; omega) _)
    rw [zg.out,hp] at h;exact h
abbrev MV:=Mem × Value × Value × Value
def Z1q (q:MV):List Value:=[.string q.1.name,.int .i64 q.1.weight,q.2.1,q.2.2.1,q.2.2.2]
theorem Z5y (q:MV):(Z1q q).length=5:=rfl
structure Y9d (w:World) (q:MV):Prop where
 c:Q0n w 0 3 (.int .i64) q.2.1 q.1.classes
 o:Q0n w 0 3 (.int .i64) q.2.2.1 q.1.outside
 i:Q0n w 0 3 (.int .i64) q.2.2.2 q.1.inflow
def K1f (w:World) (qs:List MV):Prop:=∀ q ∈ qs,Y9d w q
theorem Y9d.ext {w w':World} {q:MV} (h:Y9d w q) (hx:Ext w w'):Y9d w' q:=⟨h.c.below hx,h.o.below hx,h.i.below hx⟩
theorem Y9d.one {w:World} {q:MV} (h:Y9d w q):∀ u ∈ Z1q q,u.oneCell'=true:=by
 obtain ⟨_,_,e1,_⟩:=h.c.shape;obtain ⟨_,_,e2,_⟩:=h.o.shape;obtain ⟨_,_,e3,_⟩:=h.i.shape;intro u hu;simp only [Z1q,List.mem_cons,List.not_mem_nil,or_false] at hu
 rcases hu with rfl | rfl | rfl | rfl | rfl
 . rfl
 . rfl
 . rw [e1]; rfl
 . rw [e2]; rfl
 . rw [e3]; rfl
theorem Y9d.grown {w w':World} {q:MV} {base n size:Nat} {e:TypeId} {cv:Value} {xs:List Value} (h:Y9d w q) (Yq:w.ownsRow base e size cv n xs) (he:e ≠ 3) (hg:w.grownBy w' cv.ownBlock):Y9d w' q:=⟨Q4l h.c Yq he hg,Q4l h.o Yq he hg,Q4l h.i Yq he hg⟩
theorem Y9d.set {w:World} {q:MV} {O k:Nat} {u:Value} {S:TypeId} {cs:Array Value} (h:Y9d w q) (hb:Blk w O S cs) (hT:S ≠ 3):Y9d (w.setCell ⟨O,k,none⟩ u) q:=⟨Q7h h.c hb hT,Q7h h.o hb hT,Q7h h.i hb hT⟩
theorem Q8q {w w':World} {v:Value} {l:List Int} {g:Nat} {T S:TypeId} {cs:Array Value} (h:Q0n w 0 T (Value.int .i64) v l) (hb:Blk w g S cs) (hT:S ≠ T) (ho:∀ k,k ≠ g -> w'.heap[k]?=w.heap[k]?):Q0n w' 0 T (Value.int .i64) v l:=by
 obtain ⟨h1,h2⟩:=h;refine ⟨h1,?_⟩
 rcases h2 with h2 | ⟨g',Qq,cur,hv,hbb,Qj,r⟩
 . exact .inl h2
 . refine .inr ⟨g',Qq,cur,hv,hbb,?_,r⟩
   rw [ho g' ?_]; exact Qj;rintro rfl;unfold Blk at hb;rw [hb] at Qj;injection Qj with Qj;injection Qj with _ h3 _;exact hT h3
theorem Y9d.only {w w':World} {q:MV} {g:Nat} {S:TypeId} {cs:Array Value} (h:Y9d w q) (hb:Blk w g S cs) (hT:S ≠ 3) (ho:∀ k,k ≠ g -> w'.heap[k]?=w.heap[k]?):Y9d w' q:=⟨Q8q h.c hb hT ho,Q8q h.o hb hT ho,Q8q h.i hb hT ho⟩
theorem J1c {w:World} {B:Nat} {T:TypeId} {v:Value} {qs:List MV} (h:Q1b w B T 5 Z1q v qs) (hl:qs.length <= 100000) (hr:K1f w qs) (hs:∀ q ∈ qs,Short q.1.name /\ q.1.classes.length <= 1000 /\ q.1.outside.length <= 1000 /\ q.1.inflow.length <= 1000):X0m w v (qs.map (·.1)):=by
 refine h.rowsOf (by simp) (by simp; omega) Z5y (fun j h1 h2=>?_) (fun c c' x hc h=>?_)
 . have hq:=List.getElem_mem h1
   have hm:=hr _ hq;obtain ⟨s1,s2,s3,s4⟩:=hs _ hq;simp only [List.getElem_map];exact ⟨rfl,rfl,hm.c.ints (by omega),hm.o.ints (by omega),hm.i.ints (by omega),s1⟩
 . exact ⟨by rw [<- hc 0 (by omega)]; exact h.1,by rw [<- hc 1 (by omega)]; exact h.2.1,by rw [<- hc 2 (by omega)]; exact h.2.2.1,by rw [<- hc 3 (by omega)]; exact h.2.2.2.1,by rw [<- hc 4 (by omega)]; exact h.2.2.2.2.1,h.2.2.2.2.2⟩
theorem Tryz.K0u:(prog.info? 69).map (fun i=>(i.zero,i.size,i.bytes))=some (some (.agg #[.string ⟨#[]⟩,.int .i64 0,.slice none 0 0,.slice none 0 0,.slice none 0 0]),5,96):=by kernel_rfl
theorem Tryz.J7j (w:World):(sizeOf 68).run prog w=.ok 5 w:=by kernel_rfl
theorem Tryz.J8e (w:World):(sizeOf 32).run prog w=.ok 1 w:=by kernel_rfl
theorem Tryz.X8g (w:World):(sizeOf 34).run prog w=.ok 3 w:=by kernel_rfl
theorem Tryz.J1n (w:World):(isAgg 34).run prog w=.ok true w:=by kernel_rfl
theorem Y6d (w:World) (i:Int) (a:Option Addr) (n c:Nat):(Instr.build 34 #[(0,.int .i64 i),(1,.slice a n c)]).run prog w=.ok (.agg #[.int .i64 i,.slice a n c,.slice none 0 0]) w:=by kernel_rfl
theorem Y7i (w:World) (s:ByteArray) (i:Int) (a b d:Option Addr) (n1 c1 n2 c2 n3 c3:Nat):(Instr.build 69 #[(0,.string s),(1,.int .i64 i),(2,.slice a n1 c1),(3,.slice b n2 c2),(4,.slice d n3 c3)]).run prog w=.ok (.agg #[.string s,.int .i64 i,.slice a n1 c1,.slice b n2 c2,.slice d n3 c3]) w:=by kernel_rfl
theorem J2w (w:World) (s:ByteArray) (i:Int) (a b d:Option Addr) (n1 c1 n2 c2 n3 c3:Nat):(Instr.buildSlice 32 1 #[(0,.agg #[.string s,.int .i64 i,.slice a n1 c1,.slice b n2 c2,.slice d n3 c3])]).run prog w=.ok (.slice (some ⟨w.heap.size,0,none⟩) 1 1) (w.alloc (.cells #[.string s,.int .i64 i,.slice a n1 c1,.slice b n2 c2,.slice d n3 c3] 69)):=by kernel_rfl
theorem X1r {w:World} {o:Oper} {a:Act} (T:TypeId) (x y:Operand) (vw:o.op=.build T #[(0,x),(1,y)]) {u1 u2 r:Value} (h1:a.eval x=u1) (h2:a.eval y=u2) (hr:∀ w,(Instr.build T #[(0,u1),(1,u2)]).run prog w=.ok r w):(execOp a.eval o).run prog w=.ok (.value r) w:=by
 unfold execOp;simp only [vw,List.map_toArray,List.map_cons,List.map_nil,h1,h2,Sem.run_bind,hr,Result.andThen_ok,Sem.run_pure]
theorem Z8t {w:World} {o:Oper} {a:Act} (T:TypeId) (x y z p q:Operand) (vw:o.op=.build T #[(0,x),(1,y),(2,z),(3,p),(4,q)]) {u1 u2 u3 u4 u5 r:Value} (h1:a.eval x=u1) (h2:a.eval y=u2) (h3:a.eval z=u3) (h4:a.eval p=u4) (h5:a.eval q=u5) (hr:∀ w,(Instr.build T #[(0,u1),(1,u2),(2,u3),(3,u4),(4,u5)]).run prog w=.ok r w):(execOp a.eval o).run prog w=.ok (.value r) w:=by
 unfold execOp;simp only [vw,List.map_toArray,List.map_cons,List.map_nil,h1,h2,h3,h4,h5,Sem.run_bind,hr,Result.andThen_ok,Sem.run_pure]
theorem J1i {P:Program} {ops:Array Oper} {Q:Exit -> Act -> World -> Prop} {rest:List Oper} {a:Act} {w:World} {T ty:TypeId} {p x:Operand} {pos} {after} (h:wpList P ops Q (⟨none,.store T p x,ty,pos,after,none⟩ :: rest) a w):wpList P ops Q (⟨none,.store T p x,ty,pos,after,none⟩ :: rest) a w:=h
theorem K2n {a:ByteArray} {b:Int} {X Y Z:Option Addr} {l m n c d e:Nat}:∀ u ∈ (#[Value.string a,.int .i64 b,.slice X l c,.slice Y m d,.slice Z n e]:Array Value).toList,u.oneCell'=true:=by
 intro u hu;simp only [List.mem_cons,List.not_mem_nil,or_false] at hu
 rcases hu with rfl | rfl | rfl | rfl | rfl <;> rfl
theorem X4q (w:World) (v:Value) (s:Q0b) (hv:Q0g w v s) (hs:Q3v s) :
    Calls prog 20 #[v] w fun e w'=>∃ u,e=.returned u /\ Q0g w' u s /\ Ext w w':=by
 obtain ⟨l0,li,lz0,lz1,lz2⟩:=info_parts K0u;obtain ⟨a,b,rfl,h2⟩:=hv;obtain ⟨A,Uq,rfl,-,-,-⟩:=h2.ships.opened;obtain ⟨B,Wq,rfl,-,-,hc⟩:=h2.members.opened;have H2:=hid h2;have HC:=hid hc;have HS:=hid hs;have pm:=hs.ships;have y9:=hs.members;obtain ⟨n,hn⟩:∃ n,s.members.length=n:=⟨_,rfl⟩;have HN:=hid hn;obtain ⟨T,hT⟩:∃ n,s.ships.length=n:=⟨_,rfl⟩;have HT:=hid hT;obtain ⟨lim,Uj⟩:∃ n,s.limit=n:=⟨_,rfl⟩;have Y3:=hid Uj;have Xz:=h2.ships;rw [hT] at Xz pm;rw [hn] at HC y9;rw [hn,hT,Uj];have W7:=hid Xz;clear h2 hc hs hn hT Uj Xz;go_enter func20,ntmps20;go_wp2_with fail;obtain ⟨W,Nq,k0,k1,Sq,eW⟩:=Q3p w 25 #[.int .i64 lim,.slice A T Uq,.slice B n Wq] 34 #[.int .i64 0,.slice none 0 0,.slice none 0 0];rw [Nq];clear Nq;obtain ⟨gs,bq⟩:∃ x,w.heap.size=x:=⟨_,rfl⟩;have Nz:=hid bq;rw [bq] at k0 k1 eW ⊢;have K0:=hid k0;have K1:=hid k1;clear k0 k1 bq;have Vq:=(Ext.refl W).drew;refine Flow.Q4h [.p,.w,.p,.w,.w,.p,.w,.last] [0,1,2,3,4,5,6,7] [[],[0],[],[2],[2,3],[0,1,2,3,4],[],[0,1,2,3,4,5,6]] [7]
  [.c 0 (.pointer (some ⟨gs,0,none⟩)),.c 1 (.int .i64 lim),.c 2 (.pointer (some ⟨gs,1,none⟩)),.c 3 (.slice A T Uq),⟨fun v wz=>(fun v w'=>Q0n w' 0 3 (.int .i64) (v 4) s.ships) v wz,fun _ _ _ hx h=>Q0n.below h hx⟩,⟨fun v wz=>(fun v w'=>v 5=.agg #[.int .i64 lim,v 4,.slice none 0 0]) v wz,by intro _ _ _ _ h; exact h⟩,⟨fun v wz=>(fun v w'=>∃ g,v 6=.pointer (some ⟨g,0,none⟩) /\ Blk w' g 34 #[.int .i64 0,.slice none 0 0,.slice none 0 0] /\ W.heap.size <= g) v wz,by rintro v a b hx ⟨g,h1,h2,h3⟩; exact ⟨g,h1,h2.ext hx,h3⟩⟩,.none]
  [fun v w1 w'=>∃ g,v 6=.pointer (some ⟨g,0,none⟩) /\ Blk w1 g 34 #[.int .i64 0,.slice none 0 0,.slice none 0 0] /\ Blk w' g 34 #[.int .i64 lim,v 4,.slice none 0 0] /\ (∀ n,n <= g -> Below n w1 w') /\ (∀ k,k ≠ g -> w'.heap[k]?=w1.heap[k]?) /\ W.heap.size <= g /\ Q0n w1 0 3 (.int .i64) (v 4) s.ships] (by kernel_rfl) rfl (by kernel_rfl) ⟨?g0,?g1,?g2,?g3,?g4,?g5,?g6,?g7,trivial⟩ ?post
 case g0 | g2=>
  intro v w1 hx;intro bb hbb;subst hbb;refine ⟨_,fun w=>?_,rfl⟩;go_simp
 case g1 | g3=>
  intro v w1 hx;(repeat intro (zq:v _=_));intro bb hbb;subst hbb;have n0:w1.cell? ⟨gs,0,none⟩=some (.int .i64 lim):=(K0.out.ext (Vq.trans hx)).cell 0;have n1:w1.cell? ⟨gs,1,none⟩=some (.slice A T Uq):=(K0.out.ext (Vq.trans hx)).cell 1;intro K hK;go_simp;exact hK _ _ (Ext.refl _) rfl
 case g4=>
  intro v w1 hx;(repeat intro (zq:v _=_));intro bb hbb;subst hbb;intro K hK;go_simp;refine Q0d (Q7s w1 _ _ (W7.out.ext (Sq.out.trans (Vq.trans hx))) (by rw [HT.out]; omega)) ?_
  rintro e w2 ⟨u,rfl,Yq,Mq⟩;exact ⟨_,rfl,hK _ _ Mq (Q0n.weaken Yq (Nat.zero_le _))⟩
 case g5=>
  intro v w1 hx (q0:v 0=_) (q1:v 1=_) (q2:v 2=_) (q3:v 3=_) (q4:(fun v w'=>Q0n w' 0 3 (.int .i64) (v 4) s.ships) v w1);intro bb hbb;obtain ⟨s9,c9,e9,_⟩:=Q0n.shape q4;have o1:bb.eval (.tmp 7)=.int .i64 lim:=by rw [hbb]; dsimp only; (try simp (discharger:=decide) only [eval_put_ne]); rw [Q0a (by simp only [size_put]; exact (by decide:7 < 40))]; exact q1
  have o2:bb.eval (.tmp 10)=v 4:=by rw [hbb]; dsimp only; (try simp (discharger:=decide) only [eval_put_ne]); rw [Q0a (by simp only [size_put]; exact (by decide:10 < 40))]
  rw [e9] at o2;exact ⟨_,fun w=>X1r _ (.tmp 7) (.tmp 10) rfl o1 o2 (fun w=>Y6d w _ _ _ _),by show Value.agg #[.int .i64 lim,.slice s9 s.ships.length c9,.slice none 0 0]=Value.agg #[.int .i64 lim,v 4,.slice none 0 0]; rw [e9]⟩
 case g6=>
  intro v w1 hx;intro bb hbb;subst hbb;intro K hK;go_simp;exact hK _ _ (Ext.box _ _) ⟨_,rfl,Blk.made _ _ _,(Vq.trans hx).size⟩
 case g7=>
  intro v w1 hx (q0:v 0=_) (q1:v 1=_) (q2:v 2=_) (q3:v 3=_) (q4:(fun v w'=>Q0n w' 0 3 (.int .i64) (v 4) s.ships) v w1) (q5:(fun v w'=>v 5=.agg #[.int .i64 lim,v 4,.slice none 0 0]) v w1) (q6:(fun v w'=>∃ g,v 6=.pointer (some ⟨g,0,none⟩) /\ Blk w' g 34 #[.int .i64 0,.slice none 0 0,.slice none 0 0] /\ W.heap.size <= g) v w1);intro wl hT;obtain rfl:wl=w1:=hT;intro bb hbb;intro K hK;obtain ⟨g,e13,G7,OJ⟩:=q6;obtain ⟨s9,c9,e9,_⟩:=Q0n.shape q4;have o1:bb.eval (.tmp 3)=.pointer (some ⟨g,0,none⟩):=by rw [hbb]; dsimp only; (try simp (discharger:=decide) only [eval_put_ne]); rw [Q0a (by simp only [size_put]; exact (by decide:3 < 40))]; exact e13
  have o2:bb.eval (.tmp 11)=.agg #[.int .i64 lim,v 4,.slice none 0 0]:=by rw [hbb]; dsimp only; (try simp (discharger:=decide) only [eval_put_ne]); rw [Q0a (by simp only [size_put]; exact (by decide:11 < 40))]; exact q5
  exact Q2i (.tmp 3) (.tmp 11) _ rfl X8g o1 o2 G7 rfl rfl (by intro u hu; rw [e9] at hu; simp only [List.mem_cons,List.not_mem_nil,or_false] at hu; rcases hu with rfl | rfl | rfl <;> rfl) (fun vv w' hb hl ho=>hK _ _ ⟨g,e13,G7,hb,hl,ho,OJ,q4⟩)
 case post =>
  intro v w1 hx (q0:v 0=_) (q1:v 1=_) (q2:v 2=_) (q3:v 3=_) (q4:(fun v w'=>Q0n w' 0 3 (.int .i64) (v 4) s.ships) v w1) (q5:(fun v w'=>v 5=.agg #[.int .i64 lim,v 4,.slice none 0 0]) v w1) (q6:(fun v w'=>∃ g,v 6=.pointer (some ⟨g,0,none⟩) /\ Blk w' g 34 #[.int .i64 0,.slice none 0 0,.slice none 0 0] /\ W.heap.size <= g) v w1);intro w2 hE;replace hE:(fun v w1 w'=>∃ g,v 6=.pointer (some ⟨g,0,none⟩) /\ Blk w1 g 34 #[.int .i64 0,.slice none 0 0,.slice none 0 0] /\ Blk w' g 34 #[.int .i64 lim,v 4,.slice none 0 0] /\ (∀ n,n <= g -> Below n w1 w') /\ (∀ k,k ≠ g -> w'.heap[k]?=w1.heap[k]?) /\ W.heap.size <= g /\ Q0n w1 0 3 (.int .i64) (v 4) s.ships) v w1 w2:=hE;simp only [Flow.acts,Act.put];go_simp;obtain ⟨O,e6,xK,Fj,Pj,cj,Yb,Af⟩:=hE;have Zq:=Vq.trans hx;have Mq:Ext W w2:=Below.trans Zq (Pj _ Yb);have NY:=Q8q Af xK (by decide) cj
  obtain ⟨su,cu,eu,_⟩:=NY.shape;have Ox:=hid Mq;have dx:=hid (K0.out.ext Mq);have Rk:=hid (K1.out.ext Mq);have lq:Hid (W.heap.size <= O):=hid Yb;rw [e6];obtain ⟨uv,zf⟩:∃ z,v 4=z:=⟨_,rfl⟩;rw [zf] at Fj NY eu ⊢;have HU:=hid NY;have Rw:=hid Fj;have om:=hid eu;have lm:gs + 1 + 1 <= O:=by omega
  have Nr:O + 1 <= w2.heap.size:=by have:=Fj.lt; omega
  have c2:w2.cell? ⟨gs,2,none⟩=some (.slice B n Wq):=dx.out.cell 2;obtain ⟨wb,rfl⟩:∃ Z,Z=w2:=⟨_,rfl⟩;clear hx Vq Zq Mq NY eu xK Fj Pj cj Yb Af e6 zf eW q0 q1 q2 q3 q4 q5 q6;go_wp2_with fail;clear c2
  go_loopw [15] (fun i wr=>∃ (k:Nat) (xv:Value) (qs:List MV),k <= n /\ i=.int .i64 k /\ Q1b wr wb.heap.size 69 5 Z1q xv qs /\ qs.map (·.1)=s.members.take k /\ K1f wr qs /\ Q0n wr 0 3 (.int .i64) uv s.ships /\ Blk wr O 34 #[.int .i64 lim,uv,xv] /\ Off O wb wr) (fun i _=>n - (intOf i).toNat)
  case atStart=>exact ⟨0,_,[],Nat.zero_le _,rfl,Q1b.nil _ _ _ _ _,rfl,(fun q hq=>by simp at hq),HU.out,Rw.out,Off.refl _ _⟩
  case round =>
   obtain ⟨k,xv,qs,hk,rfl,Yq,Lz,fk,hu,Dz,dz⟩:=hrel;have rz:qs.length=k:=by rw [<- List.length_map (f:=(·.1)),Lz,List.length_take,HN.out]; omega
   have Dq:Ext w wr:=Below.trans Sq.out (Below.trans (Ox.out.mono (by have:=Nz.out; have:=Sq.out.size; omega)) (dz.1.mono (by have:=Nz.out; omega)))
   have zg:=hid Lz;have Sg:=hid fk;have yf:=hid hu;have Qz:=hid Yq;have Ng:=hid Dz;have Vw:=hid dz
   by_cases Tq:k < n
   . have Lj:(k:Int) < n:=by omega
     obtain ⟨b1,off,x,y,z,rfl,hb,e0,e1,e2,e3,e4,Wk,Xz,vZ,DX⟩:=HC.out k Tq;replace e0:=Dq.cell e0;replace e1:=Dq.cell e1;replace e2:=Dq.cell e2;replace e3:=Dq.cell e3;replace e4:=Dq.cell e4;obtain ⟨X,Rq,rfl,-,-,-⟩:=Wk.opened;obtain ⟨Y,Jq,rfl,-,-,-⟩:=Xz.opened;obtain ⟨Z,Bq,rfl,-,-,-⟩:=vZ.opened;have Aj:=HS.out.each k (by rw [HN.out]; exact Tq)
     obtain ⟨-,km,uK,jm⟩:=Aj;have O2:s.members.take (k + 1)=s.members.take k ++ [⟨Q1t s.members k,Q0o s.members k,Q0c s.members k,Q0z s.members k,Q1g s.members k⟩]:=by
      rw [List.take_succ_eq_append_getElem (by rw [HN.out]; exact Tq)]
      unfold Q1t Q0o Q0c Q0z Q1g;rw [Q0t _ (by rw [HN.out]; exact Tq)]
     have tk:=hid O2;have F7:=hid (Wk.ext Dq);have MY:=hid (Xz.ext Dq);have VY:=hid (vZ.ext Dq);obtain ⟨nm,vj⟩:∃ x,Q1t s.members k=x:=⟨_,rfl⟩;obtain ⟨wt,Vj⟩:∃ x,Q0o s.members k=x:=⟨_,rfl⟩;obtain ⟨l1,O1⟩:∃ x,Q0c s.members k=x:=⟨_,rfl⟩;obtain ⟨l2,zw⟩:∃ x,Q0z s.members k=x:=⟨_,rfl⟩;obtain ⟨l3,mg⟩:∃ x,Q1g s.members k=x:=⟨_,rfl⟩;rw [vj,Vj,O1,zw,mg] at tk;rw [vj] at e0;rw [Vj] at e1;rw [O1] at e2 F7 km;rw [zw] at e3 MY uK;rw [mg] at e4 VY jm;obtain ⟨wq,rfl⟩:∃ Z,Z=wr:=⟨_,rfl⟩;clear Yq Lz fk hu Dz dz Dq Wk Xz vZ DX O2 vj Vj O1 zw mg;go_wp2_with (with_reducible (refine J1i ?_); refine Q0v rfl _ _ _ rfl J7j rfl rfl (Blk.made _ _ _) rfl rfl K2n ?_; intro w3 Jv tK U4; refine halted ?_);obtain ⟨gm,xz⟩:∃ x,wq.heap.size=x:=⟨_,rfl⟩;have Dj:Ext wq w3:=Below.trans (Ext.box wq _) (tK _ (Nat.le_refl _));rw [xz] at Jv ⊢;have lm:O < gm:=by have:=Ng.out.lt; omega
     have KB:=hid Jv;have Uy:=hid Dj;have NJ:=hid (Ng.out.ext Dj);have Sx:=hid (Qz.out.below Dj);have Xb:Hid (K1f w3 qs):=hid (fun q hq=>(Sg.out q hq).ext Dj);have im:=hid (yf.out.below Dj);have sK:=hid (Vw.out.ext Dj (by omega))
     have fm:=hid (F7.out.ext Dj);have tG:=hid (MY.out.ext Dj);have sG:=hid (VY.out.ext Dj);have Vq:=(Ext.refl w3).drew;have dm:wb.heap.size <= w3.heap.size:=sK.out.2.1;clear Jv tK U4 Dj xz e0 e1 e2 e3 e4;unfold Q1o;go_wp2_with fail;refine Flow.Q4h [.p,.w,.p,.w,.p,.w,.p,.w,.w,.p,.w,.w,.p,.w,.w,.p,.w,.last,.last,.last] [0,1,2,3,4,5,6,7,8,9,10,11,12,13,14,15,16,17,18,19] [[],[0],[],[2],[],[4],[],[6],[6,7],[],[9],[6,7,8,9,10],[],[12],[6,7,8,9,10,11,12,13],[2,3,4,5,6,7,8,9,10,11,12,13,14],[2,3,4,5,6,7,8,9,10,11,12,13,14,15],[0,1,2,3,4,5,6,7,8,9,10,11,12,13,14,15,16],[0,1,2,3,4,5,6,7,8,9,10,11,12,13,14,15,16,17],[0,1,2,3,4,5,6,7,8,9,10,11,12,13,14,15,16,17,18]] [17,18,19]
      [.c 0 (.pointer (some ⟨O,2,none⟩)),.c 1 (xv),.c 2 (.pointer (some ⟨gm,0,none⟩)),.c 3 (.string nm),.c 4 (.pointer (some ⟨gm,1,none⟩)),.c 5 (.int .i64 wt),.c 6 (.pointer (some ⟨gm,2,none⟩)),.c 7 (.slice X l1.length Rq),⟨fun v wz=>(fun v w'=>Q0n w' 0 3 (.int .i64) (v 8) l1) v wz,fun _ _ _ hx h=>Q0n.below h hx⟩,.c 9 (.pointer (some ⟨gm,3,none⟩)),.c 10 (.slice Y l2.length Jq),⟨fun v wz=>(fun v w'=>Q0n w' 0 3 (.int .i64) (v 11) l2) v wz,fun _ _ _ hx h=>Q0n.below h hx⟩,.c 12 (.pointer (some ⟨gm,4,none⟩)),.c 13 (.slice Z l3.length Bq),⟨fun v wz=>(fun v w'=>Q0n w' 0 3 (.int .i64) (v 14) l3) v wz,fun _ _ _ hx h=>Q0n.below h hx⟩,⟨fun v wz=>(fun v w'=>v 15=.agg #[.string nm,.int .i64 wt,v 8,v 11,v 14]) v wz,by intro _ _ _ _ h; exact h⟩,⟨fun v wz=>(fun v w'=>∃ g,v 16=.slice (some ⟨g,0,none⟩) 1 1 /\ Blk w' g 69 (Z1q (⟨nm,wt,l1,l2,l3⟩,v 8,v 11,v 14)).toArray) v wz,by rintro v a b hx ⟨g,h1,h2⟩; exact ⟨g,h1,h2.ext hx⟩⟩,.none,.none,.none]
      [fun v w1 w'=>Q1b w' wb.heap.size 69 5 Z1q (v 17) (qs ++ [(⟨nm,wt,l1,l2,l3⟩,v 8,v 11,v 14)]) /\ w1.grownBy w' xv.ownBlock,fun v w1 w'=>v 18=.pointer (some ⟨O,2,none⟩) /\ Q1b w' wb.heap.size 69 5 Z1q (v 17) (qs ++ [(⟨nm,wt,l1,l2,l3⟩,v 8,v 11,v 14)]) /\ w1.grownBy w' xv.ownBlock,fun v w1 w'=>∃ x wm,Q1b wm wb.heap.size 69 5 Z1q x (qs ++ [(⟨nm,wt,l1,l2,l3⟩,v 8,v 11,v 14)]) /\ w1.grownBy wm xv.ownBlock /\ w'=wm.setCell ⟨O,2,none⟩ x] (by kernel_rfl) rfl (by kernel_rfl) ⟨?g0,?g1,?g2,?g3,?g4,?g5,?g6,?g7,?g8,?g9,?g10,?g11,?g12,?g13,?g14,?g15,?g16,?g17,?g18,?g19,trivial⟩ ?post
     case g0 | g2 | g4 | g6 | g9 | g12=>
      intro v w1 hx;intro bb hbb;subst hbb;refine ⟨_,fun w=>?_,rfl⟩;go_simp
     case g1 | g3 | g5 | g7 | g10 | g13=>
      intro v w1 hx;(repeat intro (zq:v _=_));intro bb hbb;subst hbb;have n0:w1.cell? ⟨O,2,none⟩=some xv:=(NJ.out.ext (Vq.trans hx)).cell 2;have n1:w1.cell? ⟨gm,0,none⟩=some (.string nm):=(KB.out.ext (Vq.trans hx)).cell 0;have n2:w1.cell? ⟨gm,1,none⟩=some (.int .i64 wt):=(KB.out.ext (Vq.trans hx)).cell 1;have n3:w1.cell? ⟨gm,2,none⟩=some (.slice X l1.length Rq):=(KB.out.ext (Vq.trans hx)).cell 2;have n4:w1.cell? ⟨gm,3,none⟩=some (.slice Y l2.length Jq):=(KB.out.ext (Vq.trans hx)).cell 3;have n5:w1.cell? ⟨gm,4,none⟩=some (.slice Z l3.length Bq):=(KB.out.ext (Vq.trans hx)).cell 4;intro K hK;go_simp;exact hK _ _ (Ext.refl _) rfl
     case g8=>
      intro v w1 hx;(repeat intro (zq:v _=_));intro bb hbb;subst hbb;intro K hK;go_simp;refine Q0d (Q7s w1 _ _ (fm.out.ext (Vq.trans hx)) (by omega)) ?_
      rintro e w2 ⟨u,rfl,Yq,Mq⟩;exact ⟨_,rfl,hK _ _ Mq (Q0n.weaken Yq (Nat.zero_le _))⟩
     case g11=>
      intro v w1 hx (q6:v 6=_) (q7:v 7=_) _ (q9:v 9=_) (q10:v 10=_);intro bb hbb;subst hbb;intro K hK;go_simp;refine Q0d (Q7s w1 _ _ (tG.out.ext (Vq.trans hx)) (by omega)) ?_
      rintro e w2 ⟨u,rfl,Yq,Mq⟩;exact ⟨_,rfl,hK _ _ Mq (Q0n.weaken Yq (Nat.zero_le _))⟩
     case g14=>
      intro v w1 hx (q6:v 6=_) (q7:v 7=_) _ (q9:v 9=_) (q10:v 10=_) _ (q12:v 12=_) (q13:v 13=_);intro bb hbb;subst hbb;intro K hK;go_simp;refine Q0d (Q7s w1 _ _ (sG.out.ext (Vq.trans hx)) (by omega)) ?_
      rintro e w2 ⟨u,rfl,Yq,Mq⟩;exact ⟨_,rfl,hK _ _ Mq (Q0n.weaken Yq (Nat.zero_le _))⟩
     case g15=>
      intro v w1 hx (q2:v 2=_) (q3:v 3=_) (q4:v 4=_) (q5:v 5=_) (q6:v 6=_) (q7:v 7=_) (q8:(fun v w'=>Q0n w' 0 3 (.int .i64) (v 8) l1) v w1) (q9:v 9=_) (q10:v 10=_) (q11:(fun v w'=>Q0n w' 0 3 (.int .i64) (v 11) l2) v w1) (q12:v 12=_) (q13:v 13=_) (q14:(fun v w'=>Q0n w' 0 3 (.int .i64) (v 14) l3) v w1);intro bb hbb;obtain ⟨s9,c9,e9,_⟩:=Q0n.shape q8;obtain ⟨s10,c10,e10,_⟩:=Q0n.shape q11;obtain ⟨s11,c11,e11,_⟩:=Q0n.shape q14;have o1:bb.eval (.tmp 22)=.string nm:=by rw [hbb]; dsimp only; (try simp (discharger:=decide) only [eval_put_ne]); rw [Q0a (by simp only [size_put]; exact (by decide:22 < 40))]; exact q3
      have o2:bb.eval (.tmp 24)=.int .i64 wt:=by rw [hbb]; dsimp only; (try simp (discharger:=decide) only [eval_put_ne]); rw [Q0a (by simp only [size_put]; exact (by decide:24 < 40))]; exact q5
      have o3:bb.eval (.tmp 27)=v 8:=by rw [hbb]; dsimp only; (try simp (discharger:=decide) only [eval_put_ne]); rw [Q0a (by simp only [size_put]; exact (by decide:27 < 40))]
      have o4:bb.eval (.tmp 30)=v 11:=by rw [hbb]; dsimp only; (try simp (discharger:=decide) only [eval_put_ne]); rw [Q0a (by simp only [size_put]; exact (by decide:30 < 40))]
      have o5:bb.eval (.tmp 33)=v 14:=by rw [hbb]; dsimp only; (try simp (discharger:=decide) only [eval_put_ne]); rw [Q0a (by simp only [size_put]; exact (by decide:33 < 40))]
      rw [e9] at o3;rw [e10] at o4;rw [e11] at o5;exact ⟨_,fun w=>Z8t _ (.tmp 22) (.tmp 24) (.tmp 27) (.tmp 30) (.tmp 33) rfl o1 o2 o3 o4 o5 (fun w=>Y7i w _ _ _ _ _ _ _ _ _ _ _),by show Value.agg #[.string nm,.int .i64 wt,.slice s9 l1.length c9,.slice s10 l2.length c10,.slice s11 l3.length c11]=Value.agg #[.string nm,.int .i64 wt,v 8,v 11,v 14]; rw [e9,e10,e11]⟩
     case g16=>
      intro v w1 hx (q2:v 2=_) (q3:v 3=_) (q4:v 4=_) (q5:v 5=_) (q6:v 6=_) (q7:v 7=_) (q8:(fun v w'=>Q0n w' 0 3 (.int .i64) (v 8) l1) v w1) (q9:v 9=_) (q10:v 10=_) (q11:(fun v w'=>Q0n w' 0 3 (.int .i64) (v 11) l2) v w1) (q12:v 12=_) (q13:v 13=_) (q14:(fun v w'=>Q0n w' 0 3 (.int .i64) (v 14) l3) v w1) (q15:(fun v w'=>v 15=.agg #[.string nm,.int .i64 wt,v 8,v 11,v 14]) v w1);intro bb hbb;intro K hK;obtain ⟨s9,c9,e9,_⟩:=Q0n.shape q8;obtain ⟨s10,c10,e10,_⟩:=Q0n.shape q11;obtain ⟨s11,c11,e11,_⟩:=Q0n.shape q14;have o1:bb.eval (.tmp 34)=.agg #[.string nm,.int .i64 wt,v 8,v 11,v 14]:=by rw [hbb]; dsimp only; (try simp (discharger:=decide) only [eval_put_ne]); rw [Q0a (by simp only [size_put]; exact (by decide:34 < 40))]; exact q15
      rw [e9,e10,e11] at o1;have jx:Blk (w1.alloc (.cells (Value.agg #[.string nm,.int .i64 wt,.slice s9 l1.length c9,.slice s10 l2.length c10,.slice s11 l3.length c11]).cells 69)) w1.heap.size 69 (Z1q (⟨nm,wt,l1,l2,l3⟩,v 8,v 11,v 14)).toArray:=by rw [e9,e10,e11]; exact Blk.made _ _ _
      exact Q3t 32 69 (.tmp 34) rfl o1 (J2w w1 _ _ _ _ _ _ _ _ _ _ _) (hK _ _ (Ext.box _ _) ⟨_,rfl,jx⟩)
     case g17=>
      intro v w1 hx (q0:v 0=_) (q1:v 1=_) (q2:v 2=_) (q3:v 3=_) (q4:v 4=_) (q5:v 5=_) (q6:v 6=_) (q7:v 7=_) (q8:(fun v w'=>Q0n w' 0 3 (.int .i64) (v 8) l1) v w1) (q9:v 9=_) (q10:v 10=_) (q11:(fun v w'=>Q0n w' 0 3 (.int .i64) (v 11) l2) v w1) (q12:v 12=_) (q13:v 13=_) (q14:(fun v w'=>Q0n w' 0 3 (.int .i64) (v 14) l3) v w1) _ (q16:(fun v w'=>∃ g,v 16=.slice (some ⟨g,0,none⟩) 1 1 /\ Blk w' g 69 (Z1q (⟨nm,wt,l1,l2,l3⟩,v 8,v 11,v 14)).toArray) v w1);intro wl hT;obtain rfl:wl=w1:=hT;intro bb hbb;intro K hK;obtain ⟨g,U6,T6⟩:=q16;have o1:bb.eval (.tmp 20)=xv:=by rw [hbb]; dsimp only; (try simp (discharger:=decide) only [eval_put_ne]); rw [Q0a (by simp only [size_put]; exact (by decide:20 < 40))]; exact q1
      have o2:bb.eval (.tmp 35)=.slice (some ⟨g,0,none⟩) 1 1:=by rw [hbb]; dsimp only; (try simp (discharger:=decide) only [eval_put_ne]); rw [Q0a (by simp only [size_put]; exact (by decide:35 < 40))]; exact U6
      have Zq:=Vq.trans hx;exact Q2z _ _ 32 rfl wb.heap.size 69 l0 (.agg #[.string ⟨#[]⟩,.int .i64 0,.slice none 0 0,.slice none 0 0,.slice none 0 0]) 5 96 underlying32 li lz0 lz1 lz2 rfl (by decide) Z1q Z5y xv _ (⟨nm,wt,l1,l2,l3⟩,v 8,v 11,v 14) o1 (Sx.out.below Zq) ⟨g,0,none⟩ 1 o2 (Q6i T6) (Y9d.one (q:=(⟨nm,wt,l1,l2,l3⟩,v 8,v 11,v 14)) ⟨q8,q11,q14⟩) (by omega) (by decide) (by have:=Zq.size; omega) (fun v' w' h1 h2=>hK _ _ ⟨h1,h2⟩)
     case g18=>
      intro v w1 hx (q0:v 0=_) (q1:v 1=_) (q2:v 2=_) (q3:v 3=_) (q4:v 4=_) (q5:v 5=_) (q6:v 6=_) (q7:v 7=_) _ (q9:v 9=_) (q10:v 10=_) _ (q12:v 12=_) (q13:v 13=_) _ _ _;intro wl hT;replace hT:(fun v w1 w'=>Q1b w' wb.heap.size 69 5 Z1q (v 17) (qs ++ [(⟨nm,wt,l1,l2,l3⟩,v 8,v 11,v 14)]) /\ w1.grownBy w' xv.ownBlock) v w1 wl:=hT;intro bb hbb;subst hbb;intro K hK;go_simp;exact hK _ _ ⟨rfl,hT⟩
     case g19=>
      intro v w1 hx (q0:v 0=_) (q1:v 1=_) (q2:v 2=_) (q3:v 3=_) (q4:v 4=_) (q5:v 5=_) (q6:v 6=_) (q7:v 7=_) _ (q9:v 9=_) (q10:v 10=_) _ (q12:v 12=_) (q13:v 13=_) _ _ _;intro wl hT;replace hT:(fun v w1 w'=>v 18=.pointer (some ⟨O,2,none⟩) /\ Q1b w' wb.heap.size 69 5 Z1q (v 17) (qs ++ [(⟨nm,wt,l1,l2,l3⟩,v 8,v 11,v 14)]) /\ w1.grownBy w' xv.ownBlock) v w1 wl:=hT;intro bb hbb;intro K hK;obtain ⟨mW,L0,Ew⟩:=hT;have Zq:=Vq.trans hx;obtain ⟨bp,cp,Aj,_⟩:=L0.shape;have o1:bb.eval (.tmp 37)=.pointer (some ⟨O,2,none⟩):=by rw [hbb]; dsimp only; (try simp (discharger:=decide) only [eval_put_ne]); rw [Q0a (by simp only [size_put]; exact (by decide:37 < 40))]; exact mW
      have o2:bb.eval (.tmp 36)=v 17:=by rw [hbb]; dsimp only; (try simp (discharger:=decide) only [eval_put_ne]); rw [Q0a (by simp only [size_put]; exact (by decide:36 < 40))]
      have jx:=Go.Tw.Q7f (NJ.out.ext Zq) (Sx.out.below Zq) (by omega) Ew
      exact Q3z _ _ rfl J8e (g:=O) (k:=2) o1 o2 (by rw [Aj]; rfl) (by rw [Aj]; rfl) jx (by show 2 < 3; omega) (fun v'=>hK _ _ ⟨v 17,wl,L0,Ew,rfl⟩)
     case post =>
      intro v w1 hx;(iterate 8 intro (zq:v _=_));intro (q8:(fun v w'=>Q0n w' 0 3 (.int .i64) (v 8) l1) v w1);(iterate 2 intro (zq:v _=_));intro (q11:(fun v w'=>Q0n w' 0 3 (.int .i64) (v 11) l2) v w1);(iterate 2 intro (zq:v _=_));intro (q14:(fun v w'=>Q0n w' 0 3 (.int .i64) (v 14) l3) v w1) (q15:(fun v w'=>v 15=.agg #[.string nm,.int .i64 wt,v 8,v 11,v 14]) v w1) (q16:(fun v w'=>∃ g,v 16=.slice (some ⟨g,0,none⟩) 1 1 /\ Blk w' g 69 (Z1q (⟨nm,wt,l1,l2,l3⟩,v 8,v 11,v 14)).toArray) v w1);intro w2 hE;replace hE:(fun v w1 w'=>∃ x wm,Q1b wm wb.heap.size 69 5 Z1q x (qs ++ [(⟨nm,wt,l1,l2,l3⟩,v 8,v 11,v 14)]) /\ w1.grownBy wm xv.ownBlock /\ w'=wm.setCell ⟨O,2,none⟩ x) v w1 w2:=hE;simp only [Flow.acts,Act.put];go_simp;obtain ⟨x,wm,r9,xz,rfl⟩:=hE;have Zq:=Vq.trans hx;have Wv:=Go.Tw.Q7f (NJ.out.ext Zq) (Sx.out.below Zq) (by omega) xz
      have J0:=((sK.out.ext Zq (by omega)).grown (Sx.out.below Zq) (by omega) (by omega) xz).set 2 x
      have T4:=hid (r9.X4b (p:=⟨O,2,none⟩) (by show O < wb.heap.size; omega) x)
      have MJ:=hid (Wv.set 2 x);have rK:=hid J0;have xf:=hid (Q7h (u:=x) (k:=2) (Q4l (im.out.below Zq) (Sx.out.below Zq) (by decide) xz) Wv (by decide))
      have o9:Hid (K1f (wm.setCell ⟨O,2,none⟩ x) (qs ++ [(⟨nm,wt,l1,l2,l3⟩,v 8,v 11,v 14)])):=hid (fun q hq=>by
       rcases List.mem_append.1 hq with hq | hq
       . exact (((Xb.out q hq).ext Zq).grown (Sx.out.below Zq) (by decide) xz).set Wv (by decide)
       . rw [List.mem_singleton.1 hq]
         exact (Y9d.grown (q:=(⟨nm,wt,l1,l2,l3⟩,v 8,v 11,v 14)) ⟨q8,q11,q14⟩ (Sx.out.below Zq) (by decide) xz).set Wv (by decide))
      obtain ⟨w6,qK⟩:∃ y,wm.setCell ⟨O,2,none⟩ x=y:=⟨_,rfl⟩;rw [qK] at T4 MJ rK xf o9 ⊢;clear qK r9 xz Zq hx Wv J0 Vq q8 q11 q14 q15 q16;(repeat clear zq);go_wp2;go_roundw
      case rel=>exact ⟨k + 1,x,qs ++ [(⟨nm,wt,l1,l2,l3⟩,v 8,v 11,v 14)],by omega,by go_num,T4.out,by rw [List.map_append,zg.out,tk.out]; rfl,o9.out,xf.out,MJ.out,rK.out⟩
      case measure=>simp [intOf]; omega
   . have Lj:¬ (k:Int) < n:=by omega
     have nj:k=n:=by omega
     have oq:s.members.take k=s.members:=by rw [List.take_of_length_le (by rw [HN.out]; omega)]
     rw [oq] at Lz;have hsm:∀ q ∈ qs,Short q.1.name /\ q.1.classes.length <= 1000 /\ q.1.outside.length <= 1000 /\ q.1.inflow.length <= 1000:=fun q hq=>by
      have hm:q.1 ∈ s.members:=by rw [<- Lz]; exact List.mem_map_of_mem hq
      obtain ⟨j,hj,he⟩:=List.getElem_of_mem hm;obtain ⟨_,_,_,_,_,_,_,_,_,_,_,_,_,_,_,DX⟩:=HC.out j (by rw [<- HN.out]; exact hj)
      obtain ⟨-,h1,h2,h3⟩:=HS.out.each j hj;unfold Q1t at DX;unfold Q0c at h1;unfold Q0z at h2;unfold Q1g at h3;rw [Q0t _ hj,he] at DX h1 h2 h3;exact ⟨DX,by omega,by omega,by omega⟩
     have Ey:=hid hsm;have hr:=Rk.out.below Vw.out.1 (by omega)
     have G5:=hid hr;have rq:=hid Dq;have K8:=hid Lz;have Qz:=hid Yq;have Wb:=hid Dz;obtain ⟨ax,cx,ex,-⟩:=Yq.shape;have V6:=hid rz;have Fv:∀ u ∈ (#[Value.int .i64 lim,uv,xv]:Array Value).toList,u.oneCell'=true:=by
      intro u hu;simp only [List.mem_cons,List.not_mem_nil,or_false] at hu
      rcases hu with rfl | rfl | rfl
      . rfl
      . rw [om.out]; rfl
      . rw [ex]; rfl
     have bj:=hid Fv;clear Yq Lz fk hu Dz dz Dq oq hsm Fv ex rz;go_wp2_with (first | (refine Q9x rfl _ _ rfl J1n X8g rfl Wb.out rfl ?_) | (refine Q0v rfl _ _ 34 rfl X8g rfl rfl hr rfl rfl bj.out ?_; intro w9 Fj Pj cj))
     refine bodyPost_ret (Q2h results20 rfl Fj J1n X8g) rfl ?_;refine ⟨_,rfl,⟨_,_,by rw [<- Y3.out],⟨?_,?_⟩⟩,Below.trans rq.out (Pj _ (by have:=Nz.out; omega))⟩
     . exact (Q8q yf.out G5.out (by decide) cj).ints (by rw [HT.out]; omega)
     . have h:=J1c (Qz.out.only (g:=gs + 1) (by omega) cj) (by rw [V6.out]; omega) (fun q hq=>(Sg.out q hq).only G5.out (by decide) cj) Ey.out
       rw [K8.out] at h;exact h
end Go.Proofs
namespace Go.Proofs
open Go.RowKit Go.Tw Go.Flow Tryz
theorem Tryz.info22:(prog.info? 22).map (fun i=>(i.zero,i.size,i.bytes))=some (some (.slice none 0 0),1,24):=by kernel_rfl
def RL (w:World) (vs:List Value) (ll:List (List Int)):Prop:=vs.length=ll.length /\ ∀ j,j < ll.length -> Q0n w 0 3 (.int .i64) (vs.getD j undef) (ll.getD j [])
def LL (w:World) (B:Nat) (v:Value) (ll:List (List Int)):Prop:=∃ vs,Q0n w B 22 idV v vs /\ RL w vs ll
theorem RL.ext {w w':World} {vs:List Value} {ll:List (List Int)} (h:RL w vs ll) (hx:Ext w w'):RL w' vs ll:=⟨h.1,fun j hj=>(h.2 j hj).below hx⟩
theorem LL.ext {w w':World} {B:Nat} {v:Value} {ll:List (List Int)} (h:LL w B v ll) (hx:Ext w w'):LL w' B v ll:=let ⟨vs,h1,h2⟩:=h; ⟨vs,h1.below hx,h2.ext hx⟩
theorem LL.weaken {w:World} {B B':Nat} {v:Value} {ll:List (List Int)} (h:LL w B v ll) (hb:B' <= B):LL w B' v ll:=let ⟨vs,h1,h2⟩:=h; ⟨vs,h1.weaken hb,h2⟩
theorem LL.nil (w:World) (B:Nat):LL w B (.slice none 0 0) []:=⟨[],Q0n.nil _ _ _ _,rfl,fun j hj=>by simp at hj⟩
theorem J4z {w:World} {v:Value} {l:List Int} (h:Q0n w 0 3 (.int .i64) v l):(idV v).oneCell'=true:=by
 obtain ⟨b,c,rfl,_⟩:=h.shape;rfl
theorem RL.one {w:World} {vs:List Value} {ll:List (List Int)} (h:RL w vs ll):∀ y ∈ vs,(idV y).oneCell'=true:=by
 intro y hy;obtain ⟨i,hi,rfl⟩:=List.getElem_of_mem hy;have h2:=h.2 i (by rw [<- h.1]; exact hi)
 rw [Q0t _ hi] at h2;exact J4z h2
theorem RL.insert {w:World} {vs:List Value} {ll:List (List Int)} {v:Value} {l:List Int} {n:Nat} (h:RL w vs ll) (hv:Q0n w 0 3 (.int .i64) v l) (hn:n <= ll.length):RL w (vs.take n ++ [v] ++ vs.drop n) (ll.take n ++ [l] ++ ll.drop n):=by
 obtain ⟨h1,h2⟩:=h;refine ⟨by simp [h1],fun i hi=>?_⟩
 have Fq:(ll.take n ++ [l] ++ ll.drop n).length=ll.length + 1:=by simp; omega
 rw [Fq] at hi;rw [Y0y v undef n vs i (by omega),Y0y l [] n ll i hn]
 by_cases h3:i < n
 . rw [if_pos h3,if_pos h3]; exact h2 i (by omega)
 . rw [if_neg h3,if_neg h3]
   by_cases h4:i=n
   . rw [if_pos h4,if_pos h4]; exact hv
   . rw [if_neg h4,if_neg h4]; exact h2 (i - 1) (by omega)
theorem Z4u {α:Type} (a b:List α) (d:α) (j:Nat):(a ++ b).getD j d=if j < a.length then a.getD j d else b.getD (j - a.length) d:=by
 by_cases h:j < a.length
 . rw [if_pos h]; simp [List.getElem?_append_left h]
 . rw [if_neg h]; simp [List.getElem?_append_right (show a.length <= j by omega)]
theorem RL.app {w:World} {vs us:List Value} {ll mm:List (List Int)} (h:RL w vs ll) (k:RL w us mm):RL w (vs ++ us) (ll ++ mm):=by
 refine ⟨by simp [h.1,k.1],fun j hj=>?_⟩
 rw [Z4u,Z4u,h.1];rw [List.length_append] at hj
 by_cases h3:j < ll.length
 . rw [if_pos h3,if_pos h3]; exact h.2 j h3
 . rw [if_neg h3,if_neg h3]; exact k.2 _ (by omega)
theorem RL.grown {w w':World} {vs:List Value} {ll:List (List Int)} {base n size:Nat} {cv:Value} {xs:List Value} {e:TypeId} (h:RL w vs ll) (Yq:w.ownsRow base e size cv n xs) (he:e ≠ 3) (hg:w.grownBy w' cv.ownBlock):RL w' vs ll :=
 ⟨h.1,fun j hj=>Q4l (h.2 j hj) Yq he hg⟩
theorem RL.reads {w:World} {vs:List Value} {ll:List (List Int)} (h:RL w vs ll) (hs:∀ j,j < ll.length -> (ll.getD j []).length <= 1000):Reads w vs ll:=⟨h.1,fun j hj=>(h.2 j hj).ints (by have:=hs j hj; omega)⟩
theorem LL.read {w:World} {B:Nat} {v:Value} {ll:List (List Int)} (h:LL w B v ll) (hl:ll.length <= 2000) (hs:∀ j,j < ll.length -> (ll.getD j []).length <= 1000):Q4g w v ll :=
 let ⟨_,h1,h2⟩:=h; h1.K0t (h2.reads hs) (by omega)
theorem X9l {K:Value -> World -> Prop} {o:Oper} {a:Act} {w:World} (s x:Operand) (ho:o.op=.call { callee:=.builtin .append,args:=#[s,x],argTypes:=#[72,72] })
    {B:Nat} {v u:Value} {L M:List (List Int)} (hs:a.eval s=v) (h1:LL w B v L) (hx:a.eval x=u) (h2:LL w B u M) (hL:L.length <= 2000) (hM:M.length <= 2000) (hB:B <= w.heap.size)
    (hK:∀ v' w',LL w' B v' (L ++ M) -> Below B w w' -> K v' w'):gives prog K ((execOp a.eval o).run prog w):=by
 obtain ⟨i0,hi,fq,mq,iq⟩:=info_parts info22;obtain ⟨vs,o1,m1⟩:=h1;obtain ⟨us,o2,m2⟩:=h2;have l1:=m1.1;have l2:=m2.1;exact Q1s s x 72 ho B 22 i0 (.slice none 0 0) 24 underlying72 hi fq mq iq rfl idV v u vs us hs o1 hx (Y6o o2) m2.one (by omega) (by decide) hB fun v' w' Yq hg=>hK _ _ ⟨vs ++ us,Yq,(m1.grown o1 (by decide) hg).app (m2.grown o1 (by decide) hg)⟩ (below_grown o1 hg (Nat.le_refl _) hB)
theorem Z7n {w:World} {b o n c:Nat} {l:List Int} (h:Q0e w (.slice (some ⟨b,o,none⟩) n c) l) (hn:l.length=n):∀ j u,(l.map (Value.int .i64))[j]?=some u -> w.cell? ((⟨b,o,none⟩:Addr).add j)=some u:=by
 subst hn;obtain ⟨A,Qq,hv,hl,Kq,hc⟩:=h.opened;cases hv;intro j u hj;rw [List.getElem?_map] at hj;obtain ⟨y,hy,rfl⟩:=Option.map_eq_some_iff.1 hj;obtain ⟨Zj,rfl⟩:=List.getElem?_eq_some_iff.1 hy;obtain ⟨b',off',he,Xq⟩:=hc j Zj;cases he;rw [addr_add,Xq,Q5i Zj]
theorem Z3f {h:List Int} {row:List (List Int)} {n:Nat} (hn:n=Q2e h row row.length) (h0:n=0 ∨ row.getD (n - 1) [] ≠ h):Q7t h row=row.take n ++ [h] ++ row.drop n:=by
 unfold Q7t;simp only [<- hn];rw [if_neg];rintro ⟨h1,h2⟩
 rcases h0 with h0 | h0
 . omega
 . exact h0 h2
theorem J5t {h:List Int} {row:List (List Int)} {n:Nat} (hn:n=Q2e h row row.length) (h0:0 < n) (he:row.getD (n - 1) []=h):Q7t h row=row:=by
 unfold Q7t;simp only [<- hn];rw [if_pos ⟨h0,he⟩]
theorem Z7k {s:Q0b} {t i:Nat} (hi:i <= s.members.length) (h:∀ k,k < s.members.length -> t + 1 <= (Q0c s.members k).length):∀ j,j < (s.Q6d t i).length -> ((s.Q6d t i).getD j []).length=t + 1:=by
 intro j hj;rw [Q0t _ hj];obtain ⟨k,hk,he⟩:=(Q0b.X4i t _ i).1 (List.getElem_mem hj);rw [he,List.length_take];have:=h k (by omega)
 omega
theorem Z9h {s:Q0b} (hS:Q0w s) {w:World} {B:Nat} {x:Value} (h:LL w B x s.hist):Q4g w x s.hist:=by
 refine h.read (by have:=X8p hS; omega) fun j hj=>?_
 rw [Q0t _ hj];have:=Y1b hS _ (List.getElem_mem hj);omega
theorem J5f {s:Q0b} (hS:Q0w s):0 < s.hist.length:=by
 refine List.length_pos_of_mem (a:=(Q0c s.members 0).take (0 + 1)) ?_;exact (Q0b.Q4r _ _).2 ⟨0,hS.tides.1,0,hS.some.1,rfl⟩
def RuR (w:World) (qs:List (Value × Rul)):Prop:=∀ q ∈ qs,Q0n w 0 3 (.int .i64) q.1 q.2.classes
theorem RuR.ext {w w':World} {qs:List (Value × Rul)} (h:RuR w qs) (hx:Ext w w'):RuR w' qs:=fun q hq=>(h q hq).below hx
theorem RuR.set {w:World} {qs:List (Value × Rul)} {O k:Nat} {u:Value} {S:TypeId} {cs:Array Value} (h:RuR w qs) (hb:Blk w O S cs) (hT:S ≠ 3):RuR (w.setCell ⟨O,k,none⟩ u) qs:=fun q hq=>Q7h (h q hq) hb hT
theorem RuR.grown {w w':World} {qs:List (Value × Rul)} {base n size:Nat} {e:TypeId} {cv:Value} {xs:List Value} (h:RuR w qs) (Yq:w.ownsRow base e size cv n xs) (he:e ≠ 3) (hg:w.grownBy w' cv.ownBlock):RuR w' qs:=fun q hq=>Q4l (h q hq) Yq he hg
theorem RuR.snoc {w:World} {qs:List (Value × Rul)} {q:Value × Rul} (h:RuR w qs) (hq:Q0n w 0 3 (.int .i64) q.1 q.2.classes):RuR w (qs ++ [q]):=fun x hx=>by
 rcases List.mem_append.1 hx with hx | hx
 . exact h x hx
 . rw [List.mem_singleton.1 hx]; exact hq
theorem J4s {w:World} {q:Value × Rul} (h:Q0n w 0 3 (.int .i64) q.1 q.2.classes):∀ u ∈ X0s q,u.oneCell'=true:=by
 obtain ⟨b,c,e,_⟩:=h.shape;intro u hu;simp only [X0s,List.mem_cons,List.not_mem_nil,or_false] at hu
 rcases hu with rfl | rfl
 . rw [e]; rfl
 . rfl
theorem X5i {w:World} {B:Nat} {T:TypeId} {v:Value} {qs:List (Value × Rul)} (h:Q1b w B T 2 X0s v qs) (hl:qs.length <= 100000) (hr:RuR w qs) (hs:∀ q ∈ qs,q.2.classes.length <= 4096):Q1d w v (qs.map (·.2)) :=
 Y4l h hl (fun q hq=>(hr q hq).ints (by have:=hs q hq; omega)) (Ext.refl _)
def K1d (T:TypeId) (w w':World) (x:Value) (p:List Rul):Prop:=∃ vo qs,x=.agg #[vo] /\ Q1b w' w.heap.size T 2 X0s vo qs /\ qs.map (·.2)=p /\ RuR w' qs
theorem K1d.is {T:TypeId} {w w':World} {x:Value} {p:List Rul} (h:K1d T w w' x p) (hl:p.length <= 4096) (hs:∀ r ∈ p,r.classes.length <= 4096):Q0m w' x p:=by
 obtain ⟨vo,qs,rfl,ho,rfl,hr⟩:=h;exact ⟨vo,rfl,X5i ho (by rw [List.length_map] at hl; omega) hr fun q hq=>hs _ (List.mem_map_of_mem hq)⟩
theorem Tryz.J6a:(prog.info? 167).map (fun i=>(i.zero,i.size,i.bytes))=some (some (.agg #[.slice none 0 0,.bool false]),2,32):=by kernel_rfl
theorem Z0u (w:World) (a:Option Addr) (n c:Nat) (b:Bool):(Instr.build 167 #[(0,.slice a n c),(1,.bool b)]).run prog w=.ok (.agg #[.slice a n c,.bool b]) w:=by kernel_rfl
theorem J2o (w:World) (a:Option Addr) (n c:Nat) (b:Bool):(Instr.buildSlice 36 1 #[(0,.agg #[.slice a n c,.bool b])]).run prog w=.ok (.slice (some ⟨w.heap.size,0,none⟩) 1 1) (w.alloc (.cells #[.slice a n c,.bool b] 167)):=by kernel_rfl
theorem Tryz.J8i (w:World):(sizeOf 36).run prog w=.ok 1 w:=by kernel_rfl
theorem Z4o {α:Type} {enc:α -> List Value} {k:Nat} (hk:∀ x,(enc x).length=k) {x:Value} {y:α}:∀ (l:List α) (i j:Nat) (hi:i < l.length),j < k -> enc y=(enc l[i]).set j x -> (l.flatMap enc).set (i * k + j) x=(l.set i y).flatMap enc
 | a :: l,0,j,_,hj,he=>by
   rw [List.set_cons_zero,List.flatMap_cons,List.flatMap_cons,he,Nat.zero_mul,Nat.zero_add,List.set_append_left _ _ (by rw [hk]; exact hj)]
   rfl
 | a :: l,i + 1,j,hi,hj,he=>by
   have ih:=Z4o hk l i j (by simpa using hi) hj (by simpa using he)
   rw [List.set_cons_succ,List.flatMap_cons,List.flatMap_cons,<- ih,List.set_append_right _ _ (by rw [hk,Nat.add_mul]; omega)]
   congr 2
   rw [hk,Nat.add_mul];omega
theorem Q5d {α:Type} {w:World} {base k:Nat} {e:TypeId} {enc:α -> List Value} {v:Value} {l:List α} (h:Q1b w base e k enc v l) (h0:0 < l.length) :
    ∃ g Qq cur,v=.slice (some ⟨g,0,none⟩) l.length Qq /\ base <= g /\ Blk w g e cur /\ l.length <= Qq /\ Qq <= maxLen /\ cur.size=Qq * k /\ cur.toList.take (l.length * k)=l.flatMap enc:=by
 rcases h.2 with ⟨_,hn⟩ | ⟨g,Qq,cur,hv,hb,hg,hc,hm,hs,ht⟩
 . omega
 . exact ⟨g,Qq,cur,hv,hb,hg,hc,hm,hs,ht⟩
theorem Z5r {α:Type} {w':World} {base k g Qq:Nat} {e:TypeId} {enc:α -> List Value} {cur:Array Value} {l:List α} {i j:Nat} {x:Value} {y:α} (hk:∀ x,(enc x).length=k) (hb:base <= g) (hc:l.length <= Qq) (hm:Qq <= maxLen) (hs:cur.size=Qq * k) (ht:cur.toList.take (l.length * k)=l.flatMap enc)
    (hi:i < l.length) (hj:j < k) (he:enc y=(enc l[i]).set j x) (hw:Blk w' g e (cur.setIfInBounds (i * k + j) x)):Q1b w' base e k enc (.slice (some ⟨g,0,none⟩) l.length Qq) (l.set i y):=by
 refine ⟨by rw [Q5s hk],.inr ⟨g,Qq,_,by rw [List.length_set],hb,hw,by rw [List.length_set]; exact hc,hm,by simpa using hs,?_⟩⟩
 rw [List.length_set,Array.toList_setIfInBounds,List.take_set,ht,Z4o hk l i j hi hj he]
theorem X1b {α:Type} {w:World} {g k:Nat} {e:TypeId} {enc:α -> List Value} {cur:Array Value} {l:List α} (hk:∀ x,(enc x).length=k) (hb:Blk w g e cur) (ht:cur.toList.take (l.length * k)=l.flatMap enc) {i j:Nat} (hi:i < l.length) (hj:j < k):w.cell? ⟨g,i * k + j,none⟩=(enc l[i])[j]?:=by
 rw [hb.cell,<- flat_get hk l i j hi hj,<- ht,List.getElem?_take,if_pos,Array.getElem?_toList];have:(i + 1) * k <= l.length * k:=Nat.mul_le_mul_right k hi;rw [Nat.add_mul] at this;omega
def X8c (G:List (List Nat)) (vs:Nat -> Value) (f:Nat -> Int):List (Value × Grp):=(List.range G.length).map fun j=>(vs j,⟨(G.getD j []).map Int.ofNat,f j⟩)
theorem Q1i (G:List (List Nat)) (vs:Nat -> Value) (f:Nat -> Int):(X8c G vs f).length=G.length:=by simp [X8c]
theorem Q4q {G:List (List Nat)} {vs:Nat -> Value} {f:Nat -> Int} {j:Nat} (hj:j < (X8c G vs f).length):(X8c G vs f)[j]=(vs j,⟨(G.getD j []).map Int.ofNat,f j⟩):=by simp [X8c]
theorem J3t {G:List (List Nat)} {vs:Nat -> Value} {f:Nat -> Int} {j:Nat} (x:Int):(X8c G vs f).set j (vs j,⟨(G.getD j []).map Int.ofNat,x⟩)=X8c G vs (fun i=>if i=j then x else f i):=by
 apply List.ext_getElem
 . simp [Q1i]
 . intro i h1 h2
   rw [List.getElem_set]
   by_cases e:j=i
   . subst e
     rw [if_pos rfl,Q4q,if_pos rfl]
   . rw [if_neg e,Q4q,Q4q,if_neg (fun h=>e h.symm)]
def wF (s:Q0b) (G:List (List Nat)) (k c j:Nat):Int:=if j < k then X4p s (G.getD j []) else if j=k then Z3z s (G.getD j []) c else 0
theorem J4m (s:Q0b) (G:List (List Nat)):wF s G 0 0=fun _=>0:=by
 funext j
 unfold wF;rw [if_neg (by omega)]
 split
 . rfl
 . rfl
theorem J9x (s:Q0b) (G:List (List Nat)) (k c:Nat):wF s G k c k=Z3z s (G.getD k []) c:=by unfold wF; rw [if_neg (by omega),if_pos rfl]
theorem J8u (s:Q0b) (G:List (List Nat)) (k c:Nat):(fun i=>if i=k then max (Z3z s (G.getD k []) c) (X2i s (G.getD k []) c) else wF s G k c i)=wF s G k (c + 1):=by
 funext i
 by_cases e:i=k
 . subst e
   rw [if_pos rfl,J9x,X9d]
 . rw [if_neg e]
   unfold wF;rw [if_neg e]
   by_cases h:i < k
   . rw [if_pos h,if_pos h]
   . rw [if_neg h,if_neg h,if_neg e]
theorem J7p (s:Q0b) (G:List (List Nat)) (k:Nat):wF s G k (2 ^ s.ships.length)=wF s G (k + 1) 0:=by
 funext i
 unfold wF
 by_cases h:i < k
 . rw [if_pos h,if_pos (by omega)]
 . rw [if_neg h]
   by_cases e:i=k
   . subst e
     rw [if_pos rfl,if_pos (by omega)]; rfl
   . rw [if_neg e,if_neg (by omega)]
     split
     . rfl
     . rfl
theorem J5h (s:Q0b) (G:List (List Nat)) (vs:Nat -> Value):(X8c G vs (wF s G G.length 0)).map (·.2)=G.map fun l=>⟨l.map Int.ofNat,X4p s l⟩:=by
 unfold X8c;rw [List.map_map]
 apply List.ext_getElem
 . simp
 . intro i h1 h2
   have hi:i < G.length:=by simpa using h2
   simp [wF,hi]
def Q9v (s:Q0b) (l:List Nat) (c i:Nat):List Int:=((l.take i).filter fun k=>(Q2a s k).keeps s.limit (Q5l c s.ships.length)).map Int.ofNat
theorem Z8n (s:Q0b) (c:Nat) {l:List Nat} {i:Nat} (hi:i < l.length):Q9v s l c (i + 1)=Q9v s l c i ++ if (Q2a s (l.getD i 0)).keeps s.limit (Q5l c s.ships.length) then [((l.getD i 0:Nat):Int)] else []:=by
 unfold Q9v;rw [List.take_succ_eq_append_getElem hi,List.filter_append,List.map_append];have e:l.getD i 0=l[i]:=by simp [hi]
 rw [e]
 congr 1
 rw [List.filter_cons]
 split <;> simp
theorem Z0t (s:Q0b) (l:List Nat) (c:Nat):Q1u s (Q9v s l c l.length)=X2i s l c:=by
 unfold Q1u Q9v X2i;rw [List.take_length,List.map_map]
 induction l with
 | nil=>rfl
 | cons x l ih =>
   rw [List.filter_cons,List.map_cons,List.sum_cons]
   split
   . rw [List.map_cons,List.sum_cons,ih]; rfl
   . rw [ih]; omega
theorem Y0z (s:Q0b) (l:List Nat) (c i:Nat):(Q9v s l c i).length <= l.length:=by
 unfold Q9v;rw [List.length_map];exact Nat.le_trans (List.length_filter_le _ _) (by rw [List.length_take]; omega)
theorem Z2m {s:Q0b} {l:List Nat} {n:Nat} (h:∀ k ∈ l,k < n) (c i:Nat):∀ x ∈ Q9v s l c i,0 <= x /\ x < n:=by
 intro x hx;unfold Q9v at hx;obtain ⟨k,hk,rfl⟩:=List.mem_map.1 hx;have:=h k (List.mem_of_mem_take (List.mem_filter.1 hk).1);exact ⟨Int.natCast_nonneg _,by show ((k:Nat):Int) < n; omega⟩
theorem _root_.Go.Tw.Off.blk {O g:Nat} {a b:World} {T:TypeId} {cs:Array Value} (h:Off O a b) (hb:Blk a g T cs) (hne:g ≠ O):Blk b g T cs:=by
 unfold Blk at *;rw [h.2.2 g (Array.getElem?_eq_some_iff.1 hb).1 hne]; exact hb
theorem J2f {w w':World} {v:Value} {l:List Int} {B O:Nat} {T S:TypeId} {cs:Array Value} (h:Q0n w B T (Value.int .i64) v l) (hb:Blk w O S cs) (hT:S ≠ T) (ho:Off O w w'):Q0n w' B T (Value.int .i64) v l:=by
 obtain ⟨h1,h2⟩:=h;refine ⟨h1,?_⟩
 rcases h2 with h2 | ⟨g,Qq,cur,hv,hbb,Qj,r⟩
 . exact .inl h2
 . refine .inr ⟨g,Qq,cur,hv,hbb,?_,r⟩
   rw [ho.2.2 g (Array.getElem?_eq_some_iff.1 Qj).1 ?_]; exact Qj;rintro rfl;unfold Blk at hb;rw [hb] at Qj;injection Qj with Qj;injection Qj with _ h3 _;exact hT h3
end Go.Proofs
namespace Go.Tw
def J6k (k:Nat):Code -> Bool
 | .region n _ _=>Nat.beq n k
 | .seq a _=>J6k k a
 | _=>false
def J6c (k:Nat):Code -> Option Code
 | .seq a b=>if J6k k a=true then some (.seq a b) else J6c k b
 | _=>none
noncomputable def codeFrom (fn:Func) (k:Nat):Code:=((fn.body.bind (J6c k)).getD .skip)
end Go.Tw
