/- Contract: together. -/
import Derived.Test.YthnobngcipaljaaGreatDoorPp20
import Derived.Maps.AppendAt
set_option maxRecDepth 1000000
set_option maxHeartbeats 64000000
set_option linter.unusedVariables false
set_option linter.unusedSimpArgs false
set_option linter.constructorNameAsVariable false
open Go.Lib (hid)
namespace Go.Proofs
open Go.RowKit Go.Tw Go.Flow
attribute [local go_sem] Oper.semAt_some
structure Y8m (x:Plan):Prop where
 w:0 <= x.weight /\ x.weight <= 1000000000
 c:0 <= x.closings /\ x.closings <= 1000000000
 d:0 <= x.delay /\ x.delay <= 1000000000000
 l:x.closed.length <= 10000
theorem Q0z.weaken {α:Type} {w:World} {base base' k:Nat} {e:TypeId} {enc:α -> List Value} {v:Value} {xs:List α} (h:Q0z w base e k enc v xs) (hb:base' <= base):Q0z w base' e k enc v xs:=by
 obtain ⟨h1,h2⟩:=h;refine ⟨h1,?_⟩
 rcases h2 with h2 | ⟨g,cap,cur,hv,hbg,r⟩
 . exact .inl h2
 . exact .inr ⟨g,cap,cur,hv,Nat.le_trans hb hbg,r⟩
theorem X5o {P:Program} {K:Value -> World -> Prop} {o:Oper} {a:Act} {w:World} {f:FuncId} {x:Operand} {ts:Array TypeId} {u:Value} {R:Ending -> World -> Prop} (ho:o.op=.call { callee:=.value (.func f),args:=#[x],argTypes:=ts })
    (he:Enters P f) (hx:a.eval x=u) (h:Calls P f #[u] w R) (hk:∀ e w',R e w' -> ∃ z,e=.returned z /\ K z w'):gives P K ((execOp a.eval o).run P w):=by
 unfold execOp;simp only [ho,resolve,invoke,Sem.run_bind,List.map_toArray,List.map_cons,List.map_nil,hx];go_simp;rw [he];exact Q0e h hk
theorem X4l {α:Type} {P:Program} {K:Value -> World -> Prop} {o:Oper} {a:Act} {w:World} (s x:Operand) (t:TypeId) (ho:o.op=.call { callee:=.builtin .append,args:=#[s,x],argTypes:=#[t,t] })
    (base:Nat) (e:TypeId) (i:TypeInfo) (z:Value) (k bytes:Nat) (ht:P.underlying t=some (.slice e)) (hi:P.info? e=some i) (hz:i.zero=some z) (hsize:i.size=k) (hby:i.bytes=bytes) (hzs:z.cells.size=k) (hk0:0 < k)
    (enc:α -> List Value) (hk:∀ x,(enc x).length=k) (v:Value) (xs:List α) (y:α) (hs:a.eval s=v) (hown:Q0z w base e k enc v xs) (ad:Addr) (c:Nat) (hx:a.eval x=.slice (some ad) 1 c)
    (hnews:∀ j u,(enc y)[j]?=some u -> w.cell? (ad.add j)=some u) (h1:∀ u ∈ enc y,u.oneCell'=true)
    (h63:xs.length + 1 <= 100000) (hb:bytes <= 1000) (hbase:base <= w.heap.size)
    (h:∀ v' w',Q0z w' base e k enc v' (xs ++ [y]) -> w.grownBy w' v.ownBlock -> (v'.ownBlock=v.ownBlock ∨ v'.ownBlock=some w.heap.size) -> K v' w'):gives P K ((execOp a.eval o).run P w):=by
 obtain ⟨v',w',hr,h2,h3,h4,h5⟩:=run_append_own_at (P:=P) w base t o.type e i z k bytes ht hi hz hsize hby hzs hk0 v xs.length (xs.flatMap enc) hown ad 1 c (enc y) (by rw [hk]; omega) hnews h1 (by unfold maxLen; omega) (by
     have:(xs.length + 1) * bytes <= 100000 * 1000:=Nat.mul_le_mul h63 hb;omega) hbase
 unfold execOp;simp only [ho,resolve,invoke,builtin,Sem.run_bind,Sem.run_pure,Result.andThen_ok,List.map_toArray,List.map_cons,List.map_nil,hs,hx,hr];exact h v' w' (Q0z.snoc h2) h3 h5
theorem X6h (w:World) (A B:Option Addr) (n c m d:Nat):(Instr.buildSlice 295 2 #[(0,.slice A n c),(1,.slice B m d)]).run Tryz.prog w=.ok (.slice (some ⟨w.heap.size,0,none⟩) 2 2) (w.alloc (.cells #[.slice A n c,.slice B m d] 157)):=by kernel_rfl
theorem Q6s {K:Value -> World -> Prop} {o:Oper} {a:Act} {w:World} (T E:TypeId) (x y:Operand) (ho:o.op=.buildSlice T 2 #[(0,x),(1,y)]) {u v:Value} (hx:a.eval x=u) (hy:a.eval y=v) (hr:(Instr.buildSlice T 2 #[(0,u),(1,v)]).run Tryz.prog w=.ok (.slice (some ⟨w.heap.size,0,none⟩) 2 2) (w.alloc (.cells #[u,v] E)))
    (h:K (.slice (some ⟨w.heap.size,0,none⟩) 2 2) (w.alloc (.cells #[u,v] E))):gives Tryz.prog K ((execOp a.eval o).run Tryz.prog w):=by
 unfold execOp;simp only [ho,hx,hy,List.map_toArray,List.map_cons,List.map_nil,Sem.run_bind,hr,Result.andThen_ok,Sem.run_pure];exact h
def Q9r (ps qs0:List Plan) (k:Nat):List Plan:=(ps.take k).flatMap fun x=>qs0.map (both x)
def Q9p (x:Plan) (qs0:List Plan) (j:Nat):List Plan:=(qs0.take j).map (both x)
theorem X4x {ps qs0:List Plan} {k:Nat} {x:Plan} (h:ps[k]?=some x):Q9r ps qs0 (k + 1)=Q9r ps qs0 k ++ Q9p x qs0 qs0.length:=by
 obtain ⟨hk,rfl⟩:=List.getElem?_eq_some_iff.1 h;unfold Q9r Q9p;rw [List.take_succ_eq_append_getElem hk,List.flatMap_append,List.flatMap_singleton,List.take_length]
theorem Y4v {x:Plan} {qs0:List Plan} {j:Nat} {y:Plan} (h:qs0[j]?=some y):Q9p x qs0 (j + 1)=Q9p x qs0 j ++ [both x y]:=by
 obtain ⟨hk,rfl⟩:=List.getElem?_eq_some_iff.1 h;unfold Q9p;rw [List.take_succ_eq_append_getElem hk,List.map_append]; rfl
theorem X7x (ps qs0:List Plan) (k:Nat) (hk:k <= ps.length):(Q9r ps qs0 k).length=k * qs0.length:=by
 induction k with
 | zero=>simp [Q9r]
 | succ k ih =>
   rw [X4x (List.getElem?_eq_getElem hk),List.length_append,ih (by omega),Nat.succ_mul]
   simp [Q9p]
theorem Z0a (ps qs0:List Plan):X5y (Q9r ps qs0 ps.length)=together ps qs0:=by unfold Q9r together; rw [List.take_length]
theorem Q6o {w:World} {B:Nat} {v:Value} {ps:List PV} (h:Q0z w B 159 4 Q2f v ps):∃ A cv,v=.slice A ps.length cv /\ Hid (∀ j (hj:j < ps.length),∃ gb,A=some ⟨gb,0,none⟩ /\ ∀ i,i < 4 -> w.cell? ⟨gb,j * 4 + i,none⟩=(Q2f ps[j])[i]?):=by
 rcases OwnP.cases h with ⟨rfl,h0⟩ | ⟨gb,cap,cur,rfl,_,hb,_,_,_,htk⟩
 . exact ⟨none,0,by rw [h0]; rfl,hid (fun j hj=>by rw [h0] at hj; simp at hj)⟩
 . exact ⟨_,cap,rfl,hid (fun j hj=>⟨gb,rfl,fun i hi=>X0w hb htk hj hi⟩)⟩
theorem Y1z (w:World) (B1 B2:Nat) (va vb:Value) (ps qs0:List PV) (ha:Q0z w B1 159 4 Q2f va ps) (hb:Q0z w B2 159 4 Q2f vb qs0) (hca:Q0j w ps) (hcb:Q0j w qs0) (hta:∀ q ∈ ps,Y8m q.1) (htb:∀ q ∈ qs0,Y8m q.1)
    (hlen:ps.length * qs0.length <= 80000) (hla:ps.length <= 80000) (hlb:qs0.length <= 80000) :
    Calls Tryz.prog 184 #[va,vb] w fun e w'=>∃ v' qs,e=.returned v' /\ Q0z w' w.heap.size 159 4 Q2f v' qs /\ Q0j w' qs /\ qs.map (·.1)=together (ps.map (·.1)) (qs0.map (·.1)) /\ Ext w w':=by
 obtain ⟨i0,hi,hz0,hz1,hz2⟩:=info_parts Tryz.Y4c;have HCA:=hid hca;have HCB:=hid hcb;have HTA:=hid hta;have HTB:=hid htb;obtain ⟨A,cv,hsh,HCELL⟩:=Q6o ha;subst hsh;obtain ⟨B,dv,hsh,HDELL⟩:=Q6o hb;subst hsh;obtain ⟨L,hL⟩:∃ L,ps.length=L:=⟨_,rfl⟩;obtain ⟨M,hM⟩:∃ M,qs0.length=M:=⟨_,rfl⟩;have HL:=hid hL;have HM:=hid hM;rw [hL] at hlen hla ⊢;rw [hM] at hlen hlb ⊢;have HLEN:=hid hlen;have HALL:=hid (Z0a (ps.map (·.1)) (qs0.map (·.1)));clear ha hb hca hcb hta htb hL hM hlen;go_enter Tryz.func184,Tryz.ntmps184;go_wp2
 go_loopw [5,12] (fun o i wr=>∃ (k:Nat) (qs:List PV),k <= L /\ i=.int .i64 k /\ Q0z wr w.heap.size 159 4 Q2f o qs /\ Q0j wr qs /\ qs.map (·.1)=Q9r (ps.map (·.1)) (qs0.map (·.1)) k /\ Ext w wr) (fun _ i _=>L - (intOf i).toNat)
 case atStart=>exact ⟨0,[],Nat.zero_le _,rfl,Q0z.nil _ _ _ _ _,Q0j.nil _,rfl,Ext.refl _⟩
 case round =>
  obtain ⟨k,qs,hk,rfl,hown,hcr,hun,hx⟩:=hrel;have HUN:=hid hun;have HX:=hid hx;have HOW:=hid hown;have HCR:=hid hcr;have HQL:Hid (qs.length=k * M):=hid (by
   have:=congrArg List.length hun;rw [List.length_map,X7x _ _ _ (by rw [List.length_map,HL.out]; exact hk),List.length_map,HM.out] at this
   exact this)
  by_cases hlt:k < L
  . have hkp:k < ps.length:=by rw [HL.out]; exact hlt
    have hkI:(k:Int) < L:=by omega
    obtain ⟨gb,rfl,hcell⟩:=HCELL.out k hkp;have e0:=hx.cell (hcell 0 (by omega))
    have e1:=hx.cell (hcell 1 (by omega))
    have e2:=hx.cell (hcell 2 (by omega))
    have e3:=hx.cell (hcell 3 (by omega))
    obtain ⟨A4,n4,c4,hsl⟩:=HCA.out.shape (List.getElem_mem hkp);have hpk:(ps.map (·.1))[k]?=some ps[k].1:=by rw [List.getElem?_map,List.getElem?_eq_getElem hkp]; rfl
    have hcl:=HCA.out ps[k] (List.getElem_mem hkp);have htm:=HTA.out ps[k] (List.getElem_mem hkp);obtain ⟨qk,hqke⟩:∃ z,ps[k]=z:=⟨_,rfl⟩;rw [hqke] at e0 e1 e2 e3 hsl hcl hpk htm;obtain ⟨x,xv⟩:=qk;replace hsl:xv=.slice A4 n4 c4:=hsl;subst hsl;have HST:=hid (X4x (qs0:=qs0.map (·.1)) hpk);rw [Nat.add_zero] at e0;have HCL:=hid hcl;have HTM:Hid (Y8m x):=hid htm;obtain ⟨x1,hx1⟩:∃ z,x.weight=z:=⟨_,rfl⟩;obtain ⟨x2,hx2⟩:∃ z,x.closings=z:=⟨_,rfl⟩;obtain ⟨x3,hx3⟩:∃ z,x.delay=z:=⟨_,rfl⟩;have HPX:=hid (show x.weight=x1 /\ x.closings=x2 /\ x.delay=x3 from ⟨hx1,hx2,hx3⟩)
    have hbox:=Ext.box wr (.cells #[.int .i64 x1,.int .i64 x2,.int .i64 x3,.slice A4 n4 c4] 159);have K3:=Blk.made wr 159 #[.int .i64 x1,.int .i64 x2,.int .i64 x3,.slice A4 n4 c4];replace e0:wr.cell? ⟨gb,k * 4,none⟩=some (.int .i64 x1):=by rw [<- hx1]; exact e0
    replace e1:wr.cell? ⟨gb,k * 4 + 1,none⟩=some (.int .i64 x2):=by rw [<- hx2]; exact e1
    replace e2:wr.cell? ⟨gb,k * 4 + 2,none⟩=some (.int .i64 x3):=by rw [<- hx3]; exact e2
    replace e3:wr.cell? ⟨gb,k * 4 + 3,none⟩=some (.slice A4 n4 c4):=e3;have HXB:=hid hbox;have HK3:=hid K3;clear hcell hqke hx1 hx2 hx3 hbox K3 hown hcr hun hx hcl htm hpk hkp
    go_light
    go_wp2;obtain ⟨w5,hw5⟩:∃ z,wr.alloc (.cells #[.int .i64 x1,.int .i64 x2,.int .i64 x3,.slice A4 n4 c4] 159)=z:=⟨_,rfl⟩;rw [hw5] at HXB HK3 ⊢;obtain ⟨g7,hg7⟩:∃ z,wr.heap.size=z:=⟨_,rfl⟩;have HG7:=hid hg7;rw [hg7] at HK3 ⊢;have HNE:=hid (fun (b:Nat) hb=>(OwnP.Q8q HOW.out b hb).2.1);rw [hg7] at HNE;clear hw5 hg7 e0 e1 e2 e3
    go_loopw [5,18] (fun o j wq=>∃ (n:Nat) (zs:List PV),n <= M /\ j=.int .i64 n /\ Q0z wq w.heap.size 159 4 Q2f o zs /\ Q0j wq zs /\ zs.map (·.1)=Q9r (ps.map (·.1)) (qs0.map (·.1)) k ++ Q9p x (qs0.map (·.1)) n /\ Ext w wq /\ Blk wq g7 159 #[.int .i64 x1,.int .i64 x2,.int .i64 x3,.slice A4 n4 c4] /\ some g7 ≠ o.ownBlock) (fun _ j _=>M - (intOf j).toNat)
    case atStart=>exact ⟨0,qs,Nat.zero_le _,rfl,HOW.out.below HXB.out,HCR.out.ext HXB.out,by rw [HUN.out]; simp [Q9p],HX.out.trans HXB.out,HK3.out,fun e=>by have:=HNE.out _ e.symm; omega⟩
    case round =>
     obtain ⟨n,zs,hn,rfl,hown,hcr,hun,hx,hb7,hne7⟩:=hrel;have HUN2:=hid hun;have HXW:=hid hx;have HK7:=hid hb7;have HNE7:=hid hne7;clear hb7 hne7;have HOW2:=hid hown;have HCR2:=hid hcr;have HZL:Hid (zs.length=k * M + n):=hid (by
      have:=congrArg List.length hun;rw [List.length_map,List.length_append,X7x _ _ _ (by rw [List.length_map,HL.out]; exact hk),List.length_map,HM.out] at this
      rw [this]; unfold Q9p; rw [List.length_map,List.length_take,List.length_map,HM.out]; omega)
     by_cases hnl:n < M
     . have hnp:n < qs0.length:=by rw [HM.out]; exact hnl
       have hnI:(n:Int) < M:=by omega
       obtain ⟨gc,rfl,hcell⟩:=HDELL.out n hnp;have e0:=HXW.out.cell (hcell 0 (by omega))
       have e1:=HXW.out.cell (hcell 1 (by omega))
       have e2:=HXW.out.cell (hcell 2 (by omega))
       have e3:=HXW.out.cell (hcell 3 (by omega))
       obtain ⟨B4,m4,d4,hsl⟩:=HCB.out.shape (List.getElem_mem hnp);have hpk:(qs0.map (·.1))[n]?=some qs0[n].1:=by rw [List.getElem?_map,List.getElem?_eq_getElem hnp]; rfl
       have hcl:=HCB.out qs0[n] (List.getElem_mem hnp);have htm:=HTB.out qs0[n] (List.getElem_mem hnp);obtain ⟨qk,hqke⟩:∃ z,qs0[n]=z:=⟨_,rfl⟩;rw [hqke] at e0 e1 e2 e3 hsl hcl hpk htm;obtain ⟨y,yv⟩:=qk;replace hsl:yv=.slice B4 m4 d4:=hsl;subst hsl;obtain ⟨Ao,co,hos,-⟩:=hown.shape;subst hos;have HST2:=hid (Y4v (x:=x) hpk);rw [Nat.add_zero] at e0;have HDL:=hid hcl;have HTN:Hid (Y8m y):=hid htm;obtain ⟨y1,hy1⟩:∃ z,y.weight=z:=⟨_,rfl⟩;obtain ⟨y2,hy2⟩:∃ z,y.closings=z:=⟨_,rfl⟩;obtain ⟨y3,hy3⟩:∃ z,y.delay=z:=⟨_,rfl⟩;have HPY:=hid (show y.weight=y1 /\ y.closings=y2 /\ y.delay=y3 from ⟨hy1,hy2,hy3⟩)
       replace e0:wr.cell? ⟨gc,n * 4,none⟩=some (.int .i64 y1):=by rw [<- hy1]; exact e0
       replace e1:wr.cell? ⟨gc,n * 4 + 1,none⟩=some (.int .i64 y2):=by rw [<- hy2]; exact e1
       replace e2:wr.cell? ⟨gc,n * 4 + 2,none⟩=some (.int .i64 y3):=by rw [<- hy3]; exact e2
       replace e3:wr.cell? ⟨gc,n * 4 + 3,none⟩=some (.slice B4 m4 d4):=e3;have hbox:=Ext.box wr (.cells #[.int .i64 y1,.int .i64 y2,.int .i64 y3,.slice B4 m4 d4] 159);have K3:=Blk.made wr 159 #[.int .i64 y1,.int .i64 y2,.int .i64 y3,.slice B4 m4 d4];have HXC:=hid hbox;have HK4:=hid K3;have hw1:IntKind.i64.wrap (x1 + y1)=x1 + y1:=Q2v _ (by have:=HTM.out.w; have:=HTN.out.w; have:=HPX.out; have:=HPY.out; omega) (by have:=HTM.out.w; have:=HTN.out.w; have:=HPX.out; have:=HPY.out; omega)
       have hw2:IntKind.i64.wrap (x2 + y2)=x2 + y2:=Q2v _ (by have:=HTM.out.c; have:=HTN.out.c; have:=HPX.out; have:=HPY.out; omega) (by have:=HTM.out.c; have:=HTN.out.c; have:=HPX.out; have:=HPY.out; omega)
       have hw3:IntKind.i64.wrap (x3 + y3)=x3 + y3:=Q2v _ (by have:=HTM.out.d; have:=HTN.out.d; have:=HPX.out; have:=HPY.out; omega) (by have:=HTM.out.d; have:=HTN.out.d; have:=HPX.out; have:=HPY.out; omega)
       clear hcell hqke hy1 hy2 hy3 hbox K3 hown hcr hun hx hcl htm hpk hnp
       go_light
       go_wp2;obtain ⟨wb,hwb⟩:∃ z,wr.alloc (.cells #[.int .i64 y1,.int .i64 y2,.int .i64 y3,.slice B4 m4 d4] 159)=z:=⟨_,rfl⟩;rw [hwb] at HXC HK4 ⊢;obtain ⟨g9,hg9⟩:∃ z,wr.heap.size=z:=⟨_,rfl⟩;rw [hg9] at HK4 ⊢;have HB7:Hid (Blk wb g7 159 #[.int .i64 x1,.int .i64 x2,.int .i64 x3,.slice A4 n4 c4]):=hid (HK7.out.ext HXC.out);have HOB:=hid (HOW2.out.below HXC.out);have HCB2:=hid (HCR2.out.ext HXC.out);have HSA:Hid (Q0q wb 0 9 .string (.slice A4 n4 c4) x.closed):=hid (HCL.out.below (HXW.out.trans HXC.out));have HSB:Hid (Q0q wb 0 9 .string (.slice B4 m4 d4) y.closed):=hid (HDL.out.below (HXW.out.trans HXC.out));have HSW:Hid (w.heap.size <= wb.heap.size):=hid (by have:=HXW.out.size; have:=HXC.out.size; omega)
       have HCC:=hid (fun (W:World) g hB h1 h2=>X5x W g 157 (.slice A4 n4 c4) (.slice B4 m4 d4) 0 0 x.closed y.closed hB h1 h2 (by have:=HTM.out.l; have:=HTN.out.l; omega))
       have HENT:=hid (enters_of (P:=Tryz.prog) Tryz.func196 (by kernel_rfl) rfl)
       have HNWS:Hid (∀ (W:World) gn V,Blk W gn 159 #[.int .i64 (x1 + y1),.int .i64 (x2 + y2),.int .i64 (x3 + y3),V] -> ∀ j u,(Q2f (both x y,V))[j]?=some u -> W.cell? ((⟨gn,0,none⟩:Addr).add j)=some u):=hid (fun W gn V hb=>by unfold Q2f both; dsimp only; rw [HPX.out.1,HPX.out.2.1,HPX.out.2.2,HPY.out.1,HPY.out.2.1,HPY.out.2.2]; exact Q5g hb)
       have HONE:Hid (∀ A n c,∀ u ∈ Q2f (both x y,.slice A n c),u.oneCell'=true):=hid (fun A n c=>by unfold Q2f; simp [Value.oneCell'])
       have HLW:Hid (zs.length + 1 <= 100000):=hid (by
        rw [HZL.out];have h1:(k + 1) * M <= L * M:=Nat.mul_le_mul_right _ hlt;have h2:=HLEN.out;rw [Nat.succ_mul] at h1;omega)
       have hdr:=(Ext.refl wb).drew;clear hwb hg9 e0 e1 e2 e3;refine Flow.Q4m [.p,.p,.w,.p,.w,.p,.p,.p,.w,.p,.p,.w,.p,.p,.p,.w,.p,.p,.w,.p,.p,.p,.w,.p,.w,.w,.w,.p,.w,.last,.last] [0,1,2,3,4,5,6,7,8,9,10,11,12,13,14,15,16,17,18,19,20,21,22,23,24,25,26,27,28,29,30] [[],[],[1],[],[3],[1,2,3,4],[],[6],[6,7],[],[9],[9,10],[6,7,8,9,10,11],[],[13],[13,14],[],[16],[16,17],[13,14,15,16,17,18],[6,7,8,9,10,11,12,13,14,15,16,17,18,19],[],[21],[],[23],[21,22,23,24],[21,22,23,24,25],[1,2,3,4,5,6,7,8,9,10,11,12,13,14,15,16,17,18,19,20,21,22,23,24,25,26],[1,2,3,4,5,6,7,8,9,10,11,12,13,14,15,16,17,18,19,20,21,22,23,24,25,26,27],[0,1,2,3,4,5,6,7,8,9,10,11,12,13,14,15,16,17,18,19,20,21,22,23,24,25,26,27,28],[0,1,2,3,4,5,6,7,8,9,10,11,12,13,14,15,16,17,18,19,20,21,22,23,24,25,26,27,28,29]] [29,30]
        [.c 0 (.slice Ao zs.length co),.c 1 (.pointer (some ⟨g7,0,none⟩)),.c 2 (.int .i64 x1),.c 3 (.pointer (some ⟨g9,0,none⟩)),.c 4 (.int .i64 y1),.c 5 (.int .i64 (x1 + y1)),.c 6 (.pointer (some ⟨g7,1,none⟩)),.c 7 (.pointer (some ⟨g7,1,none⟩)),.c 8 (.int .i64 x2),.c 9 (.pointer (some ⟨g9,1,none⟩)),.c 10 (.pointer (some ⟨g9,1,none⟩)),.c 11 (.int .i64 y2),.c 12 (.int .i64 (x2 + y2)),.c 13 (.pointer (some ⟨g7,1,none⟩)),.c 14 (.pointer (some ⟨g7,2,none⟩)),.c 15 (.int .i64 x3),.c 16 (.pointer (some ⟨g9,1,none⟩)),.c 17 (.pointer (some ⟨g9,2,none⟩)),.c 18 (.int .i64 y3),.c 19 (.int .i64 (x3 + y3)),.c 20 (.agg #[.int .i64 (x2 + y2),.int .i64 (x3 + y3)]),.c 21 (.pointer (some ⟨g7,3,none⟩)),.c 22 (.slice A4 n4 c4),.c 23 (.pointer (some ⟨g9,3,none⟩)),.c 24 (.slice B4 m4 d4),⟨fun v wz=>(fun v w'=>∃ gn,v 25=.slice (some ⟨gn,0,none⟩) 2 2 /\ Blk w' gn 157 #[.slice A4 n4 c4,.slice B4 m4 d4]) v wz,by rintro v a b hx ⟨gn,h1,h2⟩; exact ⟨gn,h1,h2.ext hx⟩⟩,⟨fun v wz=>(fun v w'=>∃ A n c,v 26=.slice A n c /\ Q0q w' 0 9 .string (.slice A n c) (x.closed ++ y.closed)) v wz,by rintro v a b hx ⟨A,n,c,h1,h2⟩; exact ⟨A,n,c,h1,h2.below hx⟩⟩,.is 27 (fun v=>.agg #[.int .i64 (x1 + y1),.int .i64 (x2 + y2),.int .i64 (x3 + y3),v 26]),⟨fun v wz=>(fun v w'=>∃ gn,v 28=.slice (some ⟨gn,0,none⟩) 1 1 /\ Blk w' gn 159 #[.int .i64 (x1 + y1),.int .i64 (x2 + y2),.int .i64 (x3 + y3),v 26]) v wz,by rintro v a b hx ⟨gn,h1,h2⟩; exact ⟨gn,h1,h2.ext hx⟩⟩,.none,.none]
        [fun v w1 w'=>Q0z w' w.heap.size 159 4 Q2f (v 29) (zs ++ [(both x y,v 26)]) /\ w1.grownBy w' (Value.slice Ao zs.length co).ownBlock /\ ((v 29).ownBlock=(Value.slice Ao zs.length co).ownBlock ∨ (v 29).ownBlock=some w1.heap.size),fun v w1 w'=>v 30=v 29 /\ Q0z w' w.heap.size 159 4 Q2f (v 29) (zs ++ [(both x y,v 26)]) /\ w1.grownBy w' (Value.slice Ao zs.length co).ownBlock /\ ((v 29).ownBlock=(Value.slice Ao zs.length co).ownBlock ∨ (v 29).ownBlock=some w1.heap.size)] (by kernel_rfl) rfl (by kernel_rfl) ⟨?g0,?g1,?g2,?g3,?g4,?g5,?g6,?g7,?g8,?g9,?g10,?g11,?g12,?g13,?g14,?g15,?g16,?g17,?g18,?g19,?g20,?g21,?g22,?g23,?g24,?g25,?g26,?g27,?g28,?g29,?g30,trivial⟩ ?post
       case g0 | g1 | g3 | g6 | g9 | g13 | g16 | g21 | g23=>
        intro v w1 hx;intro bb hbb;subst hbb;refine ⟨_,fun w=>?_,rfl⟩;go_simp
       case g2 | g4 | g8 | g11 | g15 | g18 | g22 | g24=>
        intro v w1 hx;(repeat intro (zq:v _=_));intro bb hbb;subst hbb;have zz0:w1.cell? ⟨g7,0,none⟩=some (.int .i64 x1):=(HB7.out.ext (hdr.trans hx)).cell 0;have zz1:w1.cell? ⟨g9,0,none⟩=some (.int .i64 y1):=(HK4.out.ext (hdr.trans hx)).cell 0;have zz2:w1.cell? ⟨g7,1,none⟩=some (.int .i64 x2):=(HB7.out.ext (hdr.trans hx)).cell 1;have zz3:w1.cell? ⟨g9,1,none⟩=some (.int .i64 y2):=(HK4.out.ext (hdr.trans hx)).cell 1;have zz4:w1.cell? ⟨g7,2,none⟩=some (.int .i64 x3):=(HB7.out.ext (hdr.trans hx)).cell 2;have zz5:w1.cell? ⟨g9,2,none⟩=some (.int .i64 y3):=(HK4.out.ext (hdr.trans hx)).cell 2;have zz6:w1.cell? ⟨g7,3,none⟩=some (.slice A4 n4 c4):=(HB7.out.ext (hdr.trans hx)).cell 3;have zz7:w1.cell? ⟨g9,3,none⟩=some (.slice B4 m4 d4):=(HK4.out.ext (hdr.trans hx)).cell 3;intro K hK;go_simp;exact hK _ _ (Ext.refl _) rfl
       case g5 | g7 | g10 | g12 | g14 | g17 | g19 | g20=>
        intro v w1 hx;(repeat intro (zq:v _=_));intro bb hbb;subst hbb;refine ⟨_,fun w=>?_,rfl⟩;go_simp
       case g25=>
        intro v w1 hx;(repeat intro (zq:v _=_));intro bb hbb;intro K hK;have o1:bb.eval (.tmp 44)=.slice A4 n4 c4:=by rw [hbb]; dsimp only; (try simp (discharger:=decide) only [eval_put_ne]); rw [Q0a (by simp only [size_put]; exact (by decide:44 < 56))]; assumption
        have o2:bb.eval (.tmp 46)=.slice B4 m4 d4:=by rw [hbb]; dsimp only; (try simp (discharger:=decide) only [eval_put_ne]); rw [Q0a (by simp only [size_put]; exact (by decide:46 < 56))]; assumption
        exact Q6s 295 157 (.tmp 44) (.tmp 46) rfl o1 o2 (X6h w1 _ _ _ _ _ _) (hK _ _ (Ext.box _ _) ⟨_,rfl,Blk.made _ _ _⟩)
       case g26=>
        intro v w1 hx (q21:v 21=_) (q22:v 22=_) (q23:v 23=_) (q24:v 24=_) (q25:(fun v w'=>∃ gn,v 25=.slice (some ⟨gn,0,none⟩) 2 2 /\ Blk w' gn 157 #[.slice A4 n4 c4,.slice B4 m4 d4]) v w1);intro bb hbb;intro K hK;obtain ⟨gn,e25,hb25⟩:=q25;have o1:bb.eval (.tmp 47)=.slice (some ⟨gn,0,none⟩) 2 2:=by rw [hbb]; dsimp only; (try simp (discharger:=decide) only [eval_put_ne]); rw [Q0a (by simp only [size_put]; exact (by decide:47 < 56))]; exact e25
        have hxx:=hdr.trans hx;refine X5o rfl HENT.out o1 (HCC.out w1 gn hb25 (HSA.out.below hxx) (HSB.out.below hxx)) ?_;rintro e w2 ⟨z,rfl,h1,h2⟩;obtain ⟨A,c,rfl,-⟩:=h1.shape;exact ⟨_,rfl,hK _ _ h2 ⟨A,_,c,rfl,h1.weaken (Nat.zero_le _)⟩⟩
       case g27=>
        intro v w1 hx (q1:v 1=_) (q2:v 2=_) (q3:v 3=_) (q4:v 4=_) (q5:v 5=_) (q6:v 6=_) (q7:v 7=_) (q8:v 8=_) (q9:v 9=_) (q10:v 10=_) (q11:v 11=_) (q12:v 12=_) (q13:v 13=_) (q14:v 14=_) (q15:v 15=_) (q16:v 16=_) (q17:v 17=_) (q18:v 18=_) (q19:v 19=_) (q20:v 20=_) (q21:v 21=_) (q22:v 22=_) (q23:v 23=_) (q24:v 24=_) _ (q26:(fun v w'=>∃ A n c,v 26=.slice A n c /\ Q0q w' 0 9 .string (.slice A n c) (x.closed ++ y.closed)) v w1);intro bb hbb;obtain ⟨A,n,c,e26,h26⟩:=q26;have o1:bb.eval (.tmp 27)=.int .i64 (x1 + y1):=by rw [hbb]; dsimp only; (try simp (discharger:=decide) only [eval_put_ne]); rw [Q0a (by simp only [size_put]; exact (by decide:27 < 56))]; exact q5
        have o2:bb.eval (.tmp 42)=.agg #[.int .i64 (x2 + y2),.int .i64 (x3 + y3)]:=by rw [hbb]; dsimp only; (try simp (discharger:=decide) only [eval_put_ne]); rw [Q0a (by simp only [size_put]; exact (by decide:42 < 56))]; exact q20
        have o3:bb.eval (.tmp 48)=.slice A n c:=by rw [hbb]; dsimp only; (try simp (discharger:=decide) only [eval_put_ne]); rw [Q0a (by simp only [size_put]; exact (by decide:48 < 56))]; exact e26
        refine ⟨.agg #[.int .i64 (x1 + y1),.int .i64 (x2 + y2),.int .i64 (x3 + y3),v 26],fun w=>?_,rfl⟩;rw [e26];unfold execOp;simp only [List.map_toArray,List.map_cons,List.map_nil,o1,o2,o3];clear o1 o2 o3 hbb;go_simp
       case g28=>
        intro v w1 hx (q1:v 1=_) (q2:v 2=_) (q3:v 3=_) (q4:v 4=_) (q5:v 5=_) (q6:v 6=_) (q7:v 7=_) (q8:v 8=_) (q9:v 9=_) (q10:v 10=_) (q11:v 11=_) (q12:v 12=_) (q13:v 13=_) (q14:v 14=_) (q15:v 15=_) (q16:v 16=_) (q17:v 17=_) (q18:v 18=_) (q19:v 19=_) (q20:v 20=_) (q21:v 21=_) (q22:v 22=_) (q23:v 23=_) (q24:v 24=_) _ (q26:(fun v w'=>∃ A n c,v 26=.slice A n c /\ Q0q w' 0 9 .string (.slice A n c) (x.closed ++ y.closed)) v w1) (q27:v 27=.agg #[.int .i64 (x1 + y1),.int .i64 (x2 + y2),.int .i64 (x3 + y3),v 26]);intro bb hbb;intro K hK;obtain ⟨A,n,c,e26,h26⟩:=q26;have o1:bb.eval (.tmp 49)=.agg #[.int .i64 (x1 + y1),.int .i64 (x2 + y2),.int .i64 (x3 + y3),.slice A n c]:=by rw [hbb]; dsimp only; (try simp (discharger:=decide) only [eval_put_ne]); rw [Q0a (by simp only [size_put]; exact (by decide:49 < 56))]; rw [q27,e26]
        exact Q3i 160 159 (.tmp 49) rfl o1 (X4c w1 _ _ _ _ _ _) (hK _ _ (Ext.box _ _) ⟨_,rfl,by show Blk _ _ _ #[_,_,_,v 26]; rw [e26]; exact Blk.made _ _ _⟩)
       case g29=>
        intro v w1 hx (q0:v 0=_) (q1:v 1=_) (q2:v 2=_) (q3:v 3=_) (q4:v 4=_) (q5:v 5=_) (q6:v 6=_) (q7:v 7=_) (q8:v 8=_) (q9:v 9=_) (q10:v 10=_) (q11:v 11=_) (q12:v 12=_) (q13:v 13=_) (q14:v 14=_) (q15:v 15=_) (q16:v 16=_) (q17:v 17=_) (q18:v 18=_) (q19:v 19=_) (q20:v 20=_) (q21:v 21=_) (q22:v 22=_) (q23:v 23=_) (q24:v 24=_) _ (q26:(fun v w'=>∃ A n c,v 26=.slice A n c /\ Q0q w' 0 9 .string (.slice A n c) (x.closed ++ y.closed)) v w1) (q27:v 27=.agg #[.int .i64 (x1 + y1),.int .i64 (x2 + y2),.int .i64 (x3 + y3),v 26]) (q28:(fun v w'=>∃ gn,v 28=.slice (some ⟨gn,0,none⟩) 1 1 /\ Blk w' gn 159 #[.int .i64 (x1 + y1),.int .i64 (x2 + y2),.int .i64 (x3 + y3),v 26]) v w1);intro wl hT;obtain rfl:wl=w1:=hT;intro bb hbb;intro K hK;obtain ⟨A,n,c,e26,h26⟩:=q26;obtain ⟨gn,e28,hb28⟩:=q28;have o1:bb.eval (.tmp 22)=.slice Ao zs.length co:=by rw [hbb]; dsimp only; (try simp (discharger:=decide) only [eval_put_ne]); rw [Q0a (by exact (by decide:22 < 56))]; exact q0
        have o2:bb.eval (.tmp 50)=.slice (some ⟨gn,0,none⟩) 1 1:=by rw [hbb]; dsimp only; (try simp (discharger:=decide) only [eval_put_ne]); rw [Q0a (by simp only [size_put]; exact (by decide:50 < 56))]; exact e28
        exact X4l _ _ 160 rfl w.heap.size 159 i0 (.agg #[.int .i64 0,.int .i64 0,.int .i64 0,.slice none 0 0]) 4 48 Tryz.underlying160 hi hz0 hz1 hz2 rfl (by decide) Q2f Q3h _ zs (both x y,v 26) o1 (HOB.out.below (hdr.trans hx)) ⟨gn,0,none⟩ 1 o2 (HNWS.out wl gn _ hb28) (by rw [e26]; exact HONE.out A n c) HLW.out (by decide) (by have:=(hdr.trans hx).size; have:=HSW.out; omega) (fun v' w' h1 h2 h3=>hK _ _ ⟨h1,h2,h3⟩)
       case g30=>
        intro v w1 hx (q0:v 0=_) (q1:v 1=_) (q2:v 2=_) (q3:v 3=_) (q4:v 4=_) (q5:v 5=_) (q6:v 6=_) (q7:v 7=_) (q8:v 8=_) (q9:v 9=_) (q10:v 10=_) (q11:v 11=_) (q12:v 12=_) (q13:v 13=_) (q14:v 14=_) (q15:v 15=_) (q16:v 16=_) (q17:v 17=_) (q18:v 18=_) (q19:v 19=_) (q20:v 20=_) (q21:v 21=_) (q22:v 22=_) (q23:v 23=_) (q24:v 24=_) _ _ (q27:v 27=.agg #[.int .i64 (x1 + y1),.int .i64 (x2 + y2),.int .i64 (x3 + y3),v 26]) _;intro wl hT;replace hT:(fun v w1 w'=>Q0z w' w.heap.size 159 4 Q2f (v 29) (zs ++ [(both x y,v 26)]) /\ w1.grownBy w' (Value.slice Ao zs.length co).ownBlock /\ ((v 29).ownBlock=(Value.slice Ao zs.length co).ownBlock ∨ (v 29).ownBlock=some w1.heap.size)) v w1 wl:=hT;intro bb hbb;subst hbb;intro K hK;go_simp;exact hK _ _ ⟨rfl,hT⟩
       case post =>
        intro v w1 hx;(iterate 25 intro (zq:v _=_));intro (q25:(fun v w'=>∃ gn,v 25=.slice (some ⟨gn,0,none⟩) 2 2 /\ Blk w' gn 157 #[.slice A4 n4 c4,.slice B4 m4 d4]) v w1) (q26:(fun v w'=>∃ A n c,v 26=.slice A n c /\ Q0q w' 0 9 .string (.slice A n c) (x.closed ++ y.closed)) v w1) (q27:v 27=.agg #[.int .i64 (x1 + y1),.int .i64 (x2 + y2),.int .i64 (x3 + y3),v 26]) (q28:(fun v w'=>∃ gn,v 28=.slice (some ⟨gn,0,none⟩) 1 1 /\ Blk w' gn 159 #[.int .i64 (x1 + y1),.int .i64 (x2 + y2),.int .i64 (x3 + y3),v 26]) v w1);intro w2 hE;replace hE:(fun v w1 w'=>v 30=v 29 /\ Q0z w' w.heap.size 159 4 Q2f (v 29) (zs ++ [(both x y,v 26)]) /\ w1.grownBy w' (Value.slice Ao zs.length co).ownBlock /\ ((v 29).ownBlock=(Value.slice Ao zs.length co).ownBlock ∨ (v 29).ownBlock=some w1.heap.size)) v w1 w2:=hE;simp only [Flow.acts,Act.put];go_simp;obtain ⟨A,n',c,e26,h26⟩:=q26;obtain ⟨-,hO2,hg2,hpl⟩:=hE;have hxx:=hdr.trans hx;have hO3:=HOB.out.below hxx;rw [e26] at hO2;have HO2:=hid hO2;have HX9:Hid (Ext w w2):=hid (Below.grown (HXW.out.trans (HXC.out.trans hxx)) hg2 (by have:=hxx.size; have:=HSW.out; omega) (fun b hb=>(OwnP.Q8q hO3 b hb).1))
        have hb7:=HB7.out.ext hxx;have HB9:Hid (Blk w2 g7 159 #[.int .i64 x1,.int .i64 x2,.int .i64 x3,.slice A4 n4 c4]):=hid ((hg2.block g7 hb7.lt HNE7.out).trans hb7);have HN9:Hid (some g7 ≠ (v 29).ownBlock):=hid (fun e=>by
         rcases hpl with h | h
         . rw [h] at e; exact HNE7.out e
         . rw [h] at e; have:=hb7.lt; injection e with e; omega)
        have HC9:Hid (Q0j w2 (zs ++ [((both x y,Value.slice A n' c):PV)])):=hid (Q0j.grown (fun z hz=>by
         rcases List.mem_append.1 hz with hz | hz
         . exact HCB2.out.ext hxx z hz
         . obtain rfl:=List.mem_singleton.1 hz
           exact h26) hO3 hg2)
        have HM9:Hid ((zs ++ [((both x y,Value.slice A n' c):PV)]).map (·.1)=Q9r (ps.map (·.1)) (qs0.map (·.1)) k ++ Q9p x (qs0.map (·.1)) (n + 1)):=hid (by rw [HST2.out,<- List.append_assoc,<- HUN2.out,List.map_append]; rfl)
        obtain ⟨vr,hvr⟩:∃ z,v 29=z:=⟨_,rfl⟩;rw [hvr] at HO2 HN9 ⊢;clear hx hdr hxx hO2 hg2 hpl hO3 hb7 h26 e26 hvr q25 q27 q28;(repeat clear zq);go_wp2;go_roundw
        case rel=>exact ⟨n + 1,zs ++ [((both x y,Value.slice A n' c):PV)],by omega,by go_num,HO2.out,HC9.out,HM9.out,HX9.out,HB9.out,HN9.out⟩
        case measure=>simp [intOf]; omega
     . have hne:n=M:=by omega
       subst hne;go_wp2;go_roundw
       case rel=>exact ⟨k + 1,zs,by omega,by go_num,HOW2.out,HCR2.out,by rw [HST.out,HUN2.out,List.length_map,HM.out],HXW.out⟩
       case measure=>simp [intOf]; omega
  . have hke:k=L:=by omega
    subst hke;have HUA:=hid (Q7r wr w.heap.size _ qs HOW.out HCR.out (by rw [HQL.out]; have:=HLEN.out; omega))
    go_wp2_with (go_at_call 197; refine HUA.out.mono ?_; rintro e w2 ⟨v',zs,rfl,h1,h2,h3,h4⟩; refine halted ?_);have H1:=hid h1;have H2:=hid h2;have H3:=hid h3;have H4:=hid h4;clear h1 h2 h3 h4;unfold Q1i;go_wp2;go_ret;exact ⟨_,zs,rfl,Q0z.weaken H1.out HX.out.size,H2.out,by rw [H3.out,HUN.out,<- HALL.out,List.length_map,HL.out],HX.out.trans H4.out⟩
end Go.Proofs
