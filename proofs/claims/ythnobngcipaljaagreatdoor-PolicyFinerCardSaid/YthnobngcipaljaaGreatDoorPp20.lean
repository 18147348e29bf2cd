/- Contract: undominated. Contracts: slices.Grow of nil; slices.Concat of two lists (strings; plans). -/
import Derived.Test.YthnobngcipaljaaGreatDoorPp18
import Derived.Test.YthnobngcipaljaaGreatDoorPp19
import Derived.Lib.AppendZeros
set_option maxRecDepth 1000000
set_option maxHeartbeats 64000000
set_option linter.unusedVariables false
set_option linter.unusedSimpArgs false
set_option linter.constructorNameAsVariable false
open Go.Lib (hid)
namespace Go.Proofs
open Go.RowKit Go.Tw Go.Flow
attribute [local go_sem] Oper.semAt_some
def X4b (row:Option Nat) (B:Nat) (v:Value) (ks:List PV) (a b:World):Prop:=a.grownBy b row /\ (Q0z a B 159 4 Q2f v ks -> Q0z b B 159 4 Q2f v ks)
theorem X4b.refl (row:Option Nat) (B:Nat) (v:Value) (ks:List PV) (a:World):X4b row B v ks a a:=⟨Q5m a row,id⟩
theorem X4b.trans {row:Option Nat} {B:Nat} {v:Value} {ks:List PV} {a b c:World} (h:X4b row B v ks a b) (k:X4b row B v ks b c):X4b row B v ks a c:=⟨Q6u h.1 k.1,fun x=>k.2 (h.2 x)⟩
theorem X4b.size {row:Option Nat} {B:Nat} {v:Value} {ks:List PV} {a b:World} (h:X4b row B v ks a b):a.heap.size <= b.heap.size:=h.1.size
theorem X4b.ext {row:Option Nat} {B:Nat} {v:Value} {ks:List PV} {a b:World} (h:Ext a b):X4b row B v ks a b:=⟨Q4f (Q5m a row) h,fun x=>x.below h⟩
theorem X4b.blk {row:Option Nat} {B:Nat} {v:Value} {ks:List PV} {a b:World} (h:X4b row B v ks a b) {g:Nat} {T:TypeId} {cs:Array Value} (hb:Blk a g T cs) (hg:some g ≠ row):Blk b g T cs:=(h.1.block g hb.lt hg).trans hb
theorem Tryz.Y4c:(Tryz.prog.info? 159).map (fun i=>(i.zero,i.size,i.bytes))=some (some (.agg #[.int .i64 0,.int .i64 0,.int .i64 0,.slice none 0 0]),4,48):=by kernel_rfl
theorem X4c (w:World) (a b c:Int) (A:Option Addr) (n cp:Nat):(Instr.buildSlice 160 1 #[(0,.agg #[.int .i64 a,.int .i64 b,.int .i64 c,.slice A n cp])]).run Tryz.prog w=.ok (.slice (some ⟨w.heap.size,0,none⟩) 1 1) (w.alloc (.cells #[.int .i64 a,.int .i64 b,.int .i64 c,.slice A n cp] 159)):=by kernel_rfl
theorem Q3i {K:Value -> World -> Prop} {o:Oper} {a:Act} {w:World} (T E:TypeId) (x:Operand) (ho:o.op=.buildSlice T 1 #[(0,x)]) {u:Value} (hx:a.eval x=u) (hr:(Instr.buildSlice T 1 #[(0,u)]).run Tryz.prog w=.ok (.slice (some ⟨w.heap.size,0,none⟩) 1 1) (w.alloc (.cells u.cells E)))
    (h:K (.slice (some ⟨w.heap.size,0,none⟩) 1 1) (w.alloc (.cells u.cells E))):gives Tryz.prog K ((execOp a.eval o).run Tryz.prog w):=by
 unfold execOp;simp only [ho,hx,List.map_toArray,List.map_cons,List.map_nil,Sem.run_bind,hr,Result.andThen_ok,Sem.run_pure];exact h
theorem Y6a {P:Program} {K:Value -> World -> Prop} {o:Oper} {a:Act} {w:World} {f:FuncId} {x y:Operand} {ts:Array TypeId} {u v:Value} {R:Ending -> World -> Prop} (ho:o.op=.call { callee:=.value (.func f),args:=#[x,y],argTypes:=ts })
    (he:Enters P f) (hx:a.eval x=u) (hy:a.eval y=v) (h:Calls P f #[u,v] w R) (hk:∀ e w',R e w' -> ∃ z,e=.returned z /\ K z w'):gives P K ((execOp a.eval o).run P w):=by
 unfold execOp;simp only [ho,resolve,invoke,Sem.run_bind,Result.andThen_ok,List.map_toArray,List.map_cons,List.map_nil,hx,hy];go_simp;rw [he];exact Q0e h hk
theorem Y1h (A:Option Addr) (n m c:Nat):(Value.slice A n c).ownBlock=(Value.slice A m c).ownBlock:=by cases A <;> rfl
theorem OwnP.Q8q {w:World} {B:Nat} {v:Value} {ps:List PV} (h:Q0z w B 159 4 Q2f v ps):∀ b,v.ownBlock=some b -> B <= b /\ b < w.heap.size /\ ∃ cs,Blk w b 159 cs:=by
 intro b hb
 rcases OwnP.cases h with ⟨rfl,_⟩ | ⟨g,cap,cur,rfl,hbg,hg,_⟩
 . cases hb
 . cases hb; exact ⟨hbg,hg.lt,_,hg⟩
theorem Q0j.grown {w w':World} {B:Nat} {v:Value} {ps qs:List PV} (h:Q0j w qs) (ho:Q0z w B 159 4 Q2f v ps) (hg:w.grownBy w' v.ownBlock):Q0j w' qs:=by
 rcases OwnP.cases ho with ⟨rfl,_⟩ | ⟨g,cap,cur,rfl,hbg,hb,_⟩
 . exact fun q hq=>X8c (E:=159) (us:=([]:List Value)) (enc':=idV) (b2:=0) (h q hq) (Q0q.nil w 0 _ _) (by decide) hg
 . exact h.off hb fun k hk hne=>hg.block k hk (by intro e; cases e; exact hne rfl)
def Q3u (ps:List PV) (k:Nat):List Plan:=((ps.take k).map (·.1)).foldl Q1p []
theorem Y3n {ps:List PV} {k:Nat} {q:PV} (hq:ps[k]?=some q):Q3u ps (k + 1)=Q1p (Q3u ps k) q.1:=by
 obtain ⟨hk,rfl⟩:=List.getElem?_eq_some_iff.1 hq;unfold Q3u;rw [List.take_succ_eq_append_getElem hk,List.map_append,List.foldl_append]; rfl
theorem Y5v (ps:List PV):Q3u ps ps.length=X5y (ps.map (·.1)):=by unfold Q3u X5y; rw [List.take_length]
theorem Q7r (w:World) (B:Nat) (v:Value) (ps:List PV) (hv:Q0z w B 159 4 Q2f v ps) (hc:Q0j w ps) (hl:ps.length <= 90000) :
    Calls Tryz.prog 197 #[v] w fun e w'=>∃ v' qs,e=.returned v' /\ Q0z w' w.heap.size 159 4 Q2f v' qs /\ Q0j w' qs /\ qs.map (·.1)=X5y (ps.map (·.1)) /\ Ext w w':=by
 obtain ⟨i0,hi,hz0,hz1,hz2⟩:=info_parts Tryz.Y4c;have HC:=hid hc;obtain ⟨A,cv,hsh,HCELL⟩:∃ A cv,v=.slice A ps.length cv /\ Hid (∀ j (hj:j < ps.length),∃ gb,A=some ⟨gb,0,none⟩ /\ ∀ i,i < 4 -> w.cell? ⟨gb,j * 4 + i,none⟩=(Q2f ps[j])[i]?):=by
  rcases OwnP.cases hv with ⟨rfl,h0⟩ | ⟨gb,cap,cur,rfl,_,hb,_,_,_,htk⟩
  . exact ⟨none,0,by rw [h0]; rfl,hid (fun j hj=>by rw [h0] at hj; simp at hj)⟩
  . exact ⟨_,cap,rfl,hid (fun j hj=>⟨gb,rfl,fun i hi=>X0w hb htk hj hi⟩)⟩
 subst hsh;obtain ⟨L,hL⟩:∃ L,ps.length=L:=⟨_,rfl⟩;have HL:=hid hL;rw [hL] at hl ⊢;have HTA:=hid (Y5v ps);clear hv hc hL;go_enter Tryz.func197,Tryz.ntmps197;go_wp2
 go_loopw [3,8] (fun o i wr=>∃ (k:Nat) (qs:List PV),k <= L /\ qs.length <= k /\ i=.int .i64 k /\ Q0z wr w.heap.size 159 4 Q2f o qs /\ Q0j wr qs /\ qs.map (·.1)=Q3u ps k /\ Ext w wr) (fun _ i _=>L - (intOf i).toNat)
 case atStart=>exact ⟨0,[],Nat.zero_le _,Nat.le_refl _,rfl,Q0z.nil _ _ _ _ _,Q0j.nil _,rfl,Ext.refl _⟩
 case round =>
  obtain ⟨k,qs,hk,hqk,rfl,hown,hcr,hun,hx⟩:=hrel;have HUN:=hid hun;have HX:=hid hx;have HOW:=hid hown;have HCR:=hid hcr
  by_cases hlt:k < L
  . have hkp:k < ps.length:=by rw [HL.out]; exact hlt
    have hkI:(k:Int) < L:=by omega
    obtain ⟨gb,rfl,hcell⟩:=HCELL.out k hkp;have e0:=hx.cell (hcell 0 (by omega))
    have e1:=hx.cell (hcell 1 (by omega))
    have e2:=hx.cell (hcell 2 (by omega))
    have e3:=hx.cell (hcell 3 (by omega))
    obtain ⟨A4,n4,c4,hsl⟩:=HC.out.shape (List.getElem_mem hkp);have hpk:ps[k]?=some ps[k]:=List.getElem?_eq_getElem hkp;have hst:=Y3n hpk;have hcl:=HC.out ps[k] (List.getElem_mem hkp);obtain ⟨qk,hqke⟩:∃ z,ps[k]=z:=⟨_,rfl⟩;rw [hqke] at e0 e1 e2 e3 hsl hst hcl;obtain ⟨x,xv⟩:=qk;replace hsl:xv=.slice A4 n4 c4:=hsl;subst hsl;rw [Nat.add_zero] at e0;replace hst:Q3u ps (k + 1)=Q1p (Q3u ps k) x:=hst;have HCL:=hid hcl;have HST:=hid hst;obtain ⟨x1,hx1⟩:∃ z,x.weight=z:=⟨_,rfl⟩;obtain ⟨x2,hx2⟩:∃ z,x.closings=z:=⟨_,rfl⟩;obtain ⟨x3,hx3⟩:∃ z,x.delay=z:=⟨_,rfl⟩;have hbox:=Ext.box wr (.cells #[.int .i64 x1,.int .i64 x2,.int .i64 x3,.slice A4 n4 c4] 159);have K3:=Blk.made wr 159 #[.int .i64 x1,.int .i64 x2,.int .i64 x3,.slice A4 n4 c4];have HTC:Hid (X6v 227 #[] #[.pointer (some ⟨wr.heap.size,0,none⟩)] (wr.alloc (.cells #[.int .i64 x1,.int .i64 x2,.int .i64 x3,.slice A4 n4 c4] 159)) (fun o=>o.Q3w x)):=hid (J1f _ x A4 n4 c4 wr.heap.size (by rw [hx1,hx2,hx3]; exact K3))
    have HTB:Hid (∀ W,X6v 228 #[.agg #[.int .i64 x1,.int .i64 x2,.int .i64 x3,.slice A4 n4 c4]] #[] W (fun o=>x.Q3w o)):=hid (fun W=>by
     have h:=J1d W x A4 n4 c4;unfold Z0x at h;rw [hx1,hx2,hx3] at h;exact h)
    have HPX:=hid (show x.weight=x1 /\ x.closings=x2 /\ x.delay=x3 from ⟨hx1,hx2,hx3⟩)
    rw [hx1] at e0;rw [hx2] at e1;rw [hx3] at e2;have HXB:=hid hbox;have HK3:=hid K3;have HCF:=hid (X6t _ w.heap.size _ qs _ #[] _ _ (hown.below hbox) (hcr.ext hbox) (by omega) (enters_of Tryz.func227 (by kernel_rfl) rfl) HTC.out)
    obtain ⟨Ao,co,hos,-⟩:=hown.shape;subst hos;obtain ⟨q,hq⟩:∃ q,(qs.any fun z=>z.1.Q3w x)=q:=⟨_,rfl⟩
    have HQ:=hid hq;rw [hq] at HCF;have hqa:(Q3u ps k).any (fun o=>o.Q3w x)=q:=by rw [<- HUN.out,List.any_map]; exact hq
    have HQA:=hid hqa;clear hcell hqke hst hx1 hx2 hx3 hbox K3 hq hqa hown hcr hun hx hcl hpk hkp
    go_light
    go_wp2_with (go_at_call 226; refine HCF.out.mono ?_; rintro e w5 ⟨rfl,hx5⟩; refine halted ?_);have HX5:=hid (HXB.out.trans hx5);have HB5:=hid (HK3.out.ext hx5);clear hx5 e0 e1 e2 e3;unfold Q1i;cases q with
    | true =>
      have HS2:Hid (Q3u ps (k + 1)=Q3u ps k):=hid (by rw [HST.out]; unfold Q1p; rw [if_pos HQA.out])
      go_wp2;go_roundw
      case rel=>exact ⟨k + 1,qs,by omega,by omega,by go_num,HOW.out.below HX5.out,HCR.out.ext HX5.out,by rw [HS2.out]; exact HUN.out,HX.out.trans HX5.out⟩
      case measure=>simp [intOf]; omega
    | false =>
      have HS2:Hid (Q3u ps (k + 1)=(Q3u ps k).filter (fun o=>!x.Q3w o) ++ [x]):=hid (by rw [HST.out]; unfold Q1p; rw [if_neg (by rw [HQA.out]; simp)])
      obtain ⟨ks,hks⟩:∃ z,(qs.filter fun z=>!x.Q3w z.1)=z:=⟨_,rfl⟩
      have HKS:=hid hks;have hkl:ks.length <= qs.length:=by rw [<- hks]; exact List.length_filter_le _ _
      have HKF:Hid (ks.map (·.1)=(Q3u ps k).filter fun o=>!x.Q3w o):=hid (by rw [<- HUN.out,<- hks,List.filter_map]; rfl)
      have HO5:=hid (HOW.out.below HX5.out);have HC5:=hid (HCR.out.ext HX5.out);have HCK:Hid (Q0j w5 ks):=hid (HC5.out.sub fun z hz=>by rw [<- hks] at hz; exact (List.mem_filter.1 hz).1)
      have HDL:=hid (fun (W:World) (h1:Q0z W w.heap.size 159 4 Q2f (.slice Ao qs.length co) qs) (h2:Q0j W qs)=>Y2y W w.heap.size _ qs 228 #[.agg #[.int .i64 x1,.int .i64 x2,.int .i64 x3,.slice A4 n4 c4]] #[] _ h1 h2 (by omega) (enters_of Tryz.func228 (by kernel_rfl) rfl) HTB.out)
      have HCX:=hid (HCL.out.below (HX.out.trans HX5.out));have HNR:Hid (some wr.heap.size ≠ (Value.slice Ao qs.length co).ownBlock):=hid (fun e=>by
       have:=(OwnP.Q8q HOW.out _ e.symm).2.1;omega)
      have HROW:Hid (∀ W:World,W.heap.size ≥ w5.heap.size -> some W.heap.size ≠ (Value.slice Ao qs.length co).ownBlock):=hid (fun (W:World) hW e=>by
       have:=(OwnP.Q8q HO5.out _ e.symm).2.1;omega)
      have HENT:=hid (enters_of (P:=Tryz.prog) Tryz.func229 (by kernel_rfl) rfl)
      have HNWS:Hid (∀ (W:World) gn,Blk W gn 159 #[.int .i64 x1,.int .i64 x2,.int .i64 x3,.slice A4 n4 c4] -> ∀ j u,(Q2f (x,.slice A4 n4 c4))[j]?=some u -> W.cell? ((⟨gn,0,none⟩:Addr).add j)=some u):=hid (fun W gn hb=>by unfold Q2f; dsimp only; rw [HPX.out.1,HPX.out.2.1,HPX.out.2.2]; exact Q5g hb)
      have HONE:Hid (∀ u ∈ Q2f (x,.slice A4 n4 c4),u.oneCell'=true):=hid (by unfold Q2f; simp [Value.oneCell'])
      have HLW:Hid (ks.length + 1 <= 100000):=hid (by omega)
      have HSW:Hid (w.heap.size <= w5.heap.size):=hid (by have:=HX.out.size; have:=HX5.out.size; omega)
      obtain ⟨g,hg⟩:∃ z,wr.heap.size=z:=⟨_,rfl⟩;rw [hg] at HB5 HNR ⊢;clear hks hg HTC HK3;have hdr:X4b (Value.slice Ao qs.length co).ownBlock w.heap.size (.slice Ao ks.length co) ks w5 w5.drew:=X4b.ext (Ext.refl w5).drew;go_wp2;refine Flow.Z3s (X4b (Value.slice Ao qs.length co).ownBlock w.heap.size (.slice Ao ks.length co) ks) 3 Ext Ext.refl (fun _ _ _=>Ext.trans) (fun _ _=>X4b.ext) (X4b.refl _ _ _ _) (fun _ _ _=>X4b.trans) (fun _ _ h=>h.size) [.p,.w,.p,.w,.w,.w,.last,.last] [0,1,2,3,4,5,6,7] [[],[],[1],[0,1,2],[],[4],[0,1,2,3,4,5],[0,1,2,3,4,5,6]] [6,7]
       [.c 0 (.slice Ao qs.length co),.c 1 (.agg #[.int .i64 x1,.int .i64 x2,.int .i64 x3,.slice A4 n4 c4]),.c 2 (.func (.func 228) #[.agg #[.int .i64 x1,.int .i64 x2,.int .i64 x3,.slice A4 n4 c4]] #[]),⟨fun v wz=>(fun v w'=>v 3=.slice Ao ks.length co /\ Q0z w' w.heap.size 159 4 Q2f (.slice Ao ks.length co) ks) v wz,by rintro v a b hx ⟨h1,h2⟩; exact ⟨h1,hx.2 h2⟩⟩,.c 4 (.agg #[.int .i64 x1,.int .i64 x2,.int .i64 x3,.slice A4 n4 c4]),⟨fun v wz=>(fun v w'=>∃ gn,v 5=.slice (some ⟨gn,0,none⟩) 1 1 /\ some gn ≠ (Value.slice Ao qs.length co).ownBlock /\ Blk w' gn 159 #[.int .i64 x1,.int .i64 x2,.int .i64 x3,.slice A4 n4 c4]) v wz,by rintro v a b hx ⟨gn,h1,h2,h3⟩; exact ⟨gn,h1,h2,hx.blk h3 h2⟩⟩,.none,.none]
       [fun v w1 w'=>Q0z w' w.heap.size 159 4 Q2f (v 6) (ks ++ [(x,.slice A4 n4 c4)]) /\ w1.grownBy w' (Value.slice Ao ks.length co).ownBlock,fun v w1 w'=>v 7=v 6 /\ Q0z w' w.heap.size 159 4 Q2f (v 6) (ks ++ [(x,.slice A4 n4 c4)]) /\ w1.grownBy w' (Value.slice Ao ks.length co).ownBlock] (by kernel_rfl) rfl (by kernel_rfl) ⟨?g0,?g1,?g2,?g3,?g4,?g5,?g6,?g7,trivial⟩ ?post
      case g0=>
       intro v w1 hx;replace hx:(X4b (Value.slice Ao qs.length co).ownBlock w.heap.size (.slice Ao ks.length co) ks) _ w1:=hx;intro bb hbb;subst hbb;refine ⟨_,fun w=>?_,rfl⟩;go_simp
      case g1 | g4=>
       intro v w1 hx;replace hx:(X4b (Value.slice Ao qs.length co).ownBlock w.heap.size (.slice Ao ks.length co) ks) _ w1:=hx;intro bb hbb;intro K hK;have o1:bb.eval (.tmp 5)=.pointer (some ⟨g,0,none⟩):=by rw [hbb]; dsimp only; (try simp (discharger:=decide) only [eval_put_ne]); rfl
       exact Q0p (.tmp 5) _ rfl Tryz.Z9h Tryz.X5w o1 ((hdr.trans hx).blk HB5.out HNR.out) rfl (hK _ _ (Ext.refl w1) rfl)
      case g2=>
       intro v w1 hx;(repeat intro (zq:v _=_));replace hx:(X4b (Value.slice Ao qs.length co).ownBlock w.heap.size (.slice Ao ks.length co) ks) _ w1:=hx;intro bb hbb;subst hbb;refine ⟨_,fun w=>?_,rfl⟩;go_simp
      case g3=>
       intro v w1 hx;(repeat intro (zq:v _=_));replace hx:Ext _ w1:=hx;intro bb hbb;intro K hK;have o1:bb.eval (.tmp 15)=.slice Ao qs.length co:=by rw [hbb]; dsimp only; (try simp (discharger:=decide) only [eval_put_ne]); rw [Q0a (by exact (by decide:15 < 24))]; assumption
       have o2:bb.eval (.tmp 17)=.func (.func 228) #[.agg #[.int .i64 x1,.int .i64 x2,.int .i64 x3,.slice A4 n4 c4]] #[]:=by rw [hbb]; dsimp only; (try simp (discharger:=decide) only [eval_put_ne]); rw [Q0a (by exact (by decide:17 < 24))]; assumption
       have hxx:=(Ext.refl w5).drew.trans hx;refine Y6a rfl HENT.out o1 o2 (HDL.out w1 (HO5.out.below hxx) (HC5.out.ext hxx)) ?_;rintro e w2 ⟨v',rfl,h1,h2,h3,h4⟩;rw [HKS.out] at h1 h4;obtain rfl:v'=.slice Ao ks.length co:=h4 Ao qs.length co rfl;exact ⟨_,rfl,hK _ _ (show X4b _ _ _ _ _ _ from ⟨h3,fun _=>h1⟩) ⟨rfl,h1⟩⟩
      case g5=>
       intro v w1 hx;(repeat intro (zq:v _=_));replace hx:(X4b (Value.slice Ao qs.length co).ownBlock w.heap.size (.slice Ao ks.length co) ks) _ w1:=hx;intro bb hbb;intro K hK;have o1:bb.eval (.tmp 19)=.agg #[.int .i64 x1,.int .i64 x2,.int .i64 x3,.slice A4 n4 c4]:=by rw [hbb]; dsimp only; (try simp (discharger:=decide) only [eval_put_ne]); rw [Q0a (by exact (by decide:19 < 24))]; assumption
       exact Q3i 160 159 (.tmp 19) rfl o1 (X4c w1 _ _ _ _ _ _) (hK _ _ (Ext.box _ _) ⟨_,rfl,HROW.out w1 (hdr.trans hx).size,Blk.made _ _ _⟩)
      case g6=>
       intro v w1 hx (q0:v 0=_) (q1:v 1=_) (q2:v 2=_) (q3:(fun v w'=>v 3=.slice Ao ks.length co /\ Q0z w' w.heap.size 159 4 Q2f (.slice Ao ks.length co) ks) v w1) (q4:v 4=_) (q5:(fun v w'=>∃ gn,v 5=.slice (some ⟨gn,0,none⟩) 1 1 /\ some gn ≠ (Value.slice Ao qs.length co).ownBlock /\ Blk w' gn 159 #[.int .i64 x1,.int .i64 x2,.int .i64 x3,.slice A4 n4 c4]) v w1);intro wl hT;obtain rfl:wl=w1:=hT;intro bb hbb;intro K hK;obtain ⟨e3,HO⟩:=q3;obtain ⟨gn,e5,hgn,hb5⟩:=q5;have o1:bb.eval (.tmp 18)=.slice Ao ks.length co:=by rw [hbb]; dsimp only; (try simp (discharger:=decide) only [eval_put_ne]); rw [Q0a (by simp only [size_put]; exact (by decide:18 < 24))]; exact e3
       have o2:bb.eval (.tmp 20)=.slice (some ⟨gn,0,none⟩) 1 1:=by rw [hbb]; dsimp only; (try simp (discharger:=decide) only [eval_put_ne]); rw [Q0a (by simp only [size_put]; exact (by decide:20 < 24))]; exact e5
       exact Q2i _ _ 160 rfl w.heap.size 159 i0 (.agg #[.int .i64 0,.int .i64 0,.int .i64 0,.slice none 0 0]) 4 48 Tryz.underlying160 hi hz0 hz1 hz2 rfl (by decide) Q2f Q3h _ ks (x,.slice A4 n4 c4) o1 HO ⟨gn,0,none⟩ 1 o2 (HNWS.out wl gn hb5) HONE.out HLW.out (by decide) (by have:=(hdr.trans hx).size; have:=HSW.out; omega) (fun v' w' h1 h2=>hK _ _ ⟨h1,h2⟩)
      case g7=>
       intro v w1 hx (q0:v 0=_) (q1:v 1=_) (q2:v 2=_) _ (q4:v 4=_) _;intro wl hT;replace hT:(fun v w1 w'=>Q0z w' w.heap.size 159 4 Q2f (v 6) (ks ++ [(x,.slice A4 n4 c4)]) /\ w1.grownBy w' (Value.slice Ao ks.length co).ownBlock) v w1 wl:=hT;intro bb hbb;subst hbb;intro K hK;go_simp;exact hK _ _ ⟨rfl,hT⟩
      case post =>
       intro v w1 hx;(iterate 3 intro (zq:v _=_));intro (q3:(fun v w'=>v 3=.slice Ao ks.length co /\ Q0z w' w.heap.size 159 4 Q2f (.slice Ao ks.length co) ks) v w1);(iterate 1 intro (zq:v _=_));intro (q5:(fun v w'=>∃ gn,v 5=.slice (some ⟨gn,0,none⟩) 1 1 /\ some gn ≠ (Value.slice Ao qs.length co).ownBlock /\ Blk w' gn 159 #[.int .i64 x1,.int .i64 x2,.int .i64 x3,.slice A4 n4 c4]) v w1);intro w2 hE;replace hE:(fun v w1 w'=>v 7=v 6 /\ Q0z w' w.heap.size 159 4 Q2f (v 6) (ks ++ [(x,.slice A4 n4 c4)]) /\ w1.grownBy w' (Value.slice Ao ks.length co).ownBlock) v w1 w2:=hE;simp only [Flow.acts,Act.put];go_simp;obtain ⟨-,hO2,hg2⟩:=hE;have hg5:w5.grownBy w2 (Value.slice Ao qs.length co).ownBlock:=Q6u (hdr.trans hx).1 (by rw [Y1h Ao qs.length ks.length co]; exact hg2)
       have HO2:=hid hO2;have HX2:Hid (Ext w w2):=hid (Below.grown (HX.out.trans HX5.out) hg5 HSW.out (fun b hb=>(OwnP.Q8q HO5.out b hb).1));have HC2:Hid (Q0j w2 (ks ++ [((x,Value.slice A4 n4 c4):PV)])):=hid (Q0j.grown (fun z hz=>by
        rcases List.mem_append.1 hz with hz | hz
        . exact HCK.out z hz
        . obtain rfl:=List.mem_singleton.1 hz
          exact HCX.out) HO5.out hg5)
       have HM2:Hid ((ks ++ [((x,Value.slice A4 n4 c4):PV)]).map (·.1)=Q3u ps (k + 1)):=hid (by rw [HS2.out,<- HKF.out,List.map_append]; rfl)
       have hkk:(ks ++ [((x,Value.slice A4 n4 c4):PV)]).length <= k + 1:=by rw [List.length_append]; simp only [List.length_singleton]; omega
       obtain ⟨vr,hvr⟩:∃ z,v 6=z:=⟨_,rfl⟩;rw [hvr] at HO2 ⊢;clear hx hdr q3 q5 hO2 hg2 hg5 hvr;(repeat clear zq);go_wp2;go_roundw
       case rel=>exact ⟨k + 1,ks ++ [((x,Value.slice A4 n4 c4):PV)],by omega,hkk,by go_num,HO2.out,HC2.out,HM2.out,HX2.out⟩
       case measure=>simp [intOf]; omega
  . have hke:k=L:=by omega
    subst hke;go_wp2;go_ret;exact ⟨_,qs,rfl,HOW.out,HCR.out,by rw [HUN.out,<- HTA.out,HL.out],HX.out⟩
end Go.Proofs
namespace Go.Tw
open Go.RowKit Go.Flow
def emp:ByteArray:=⟨#[]⟩
theorem Q9q {α:Type} {P:Program} {K:Value -> World -> Prop} {o:Oper} {a:Act} {w:World} (s x:Operand) (t:TypeId) (ho:o.op=.call { callee:=.builtin .append,args:=#[s,x],argTypes:=#[t,t] })
    (base:Nat) (e:TypeId) (i:TypeInfo) (z:Value) (k bytes:Nat) (ht:P.underlying t=some (.slice e)) (hi:P.info? e=some i) (hz:i.zero=some z) (hsize:i.size=k) (hby:i.bytes=bytes) (hzs:z.cells.size=k) (hk0:0 < k)
    (enc:α -> List Value) (hk:∀ x,(enc x).length=k) (v:Value) (xs ys:List α) (hs:a.eval s=v) (hown:Q0z w base e k enc v xs) (A:Option Addr) (c:Nat) (hx:a.eval x=.slice A ys.length c)
    (hA:0 < ys.length -> ∃ ad,A=some ad /\ ∀ j u,(ys.flatMap enc)[j]?=some u -> w.cell? (ad.add j)=some u) (h1:∀ u ∈ ys.flatMap enc,u.oneCell'=true)
    (h63:xs.length + ys.length <= 100000) (hb:bytes <= 1000) (hbase:base <= w.heap.size)
    (h:∀ v' w',Q0z w' base e k enc v' (xs ++ ys) -> w.grownBy w' v.ownBlock -> K v' w'):gives P K ((execOp a.eval o).run P w):=by
 rcases Nat.eq_zero_or_pos ys.length with h0 | h0
 . have e0:ys=[]:=List.eq_nil_of_length_eq_zero h0
   subst e0;obtain ⟨b,c',rfl,hcap⟩:=hown.shape;unfold execOp;simp only [ho,resolve,invoke,builtin,Sem.run_bind,Sem.run_pure,Result.andThen_ok,List.map_toArray,List.map_cons,List.map_nil,hs,hx];rw [List.length_nil,Q7q (P:=P) w t o.type e i ht hi b A xs.length c' c hcap];exact h _ _ (by simpa using hown) ⟨rfl,rfl,rfl,Nat.le_refl _,fun _ _ _=>rfl⟩
 . obtain ⟨ad,rfl,hnews⟩:=hA h0
   have hbytes:(xs.length + ys.length) * bytes <= 140737488355328:=by
    have:(xs.length + ys.length) * bytes <= 100000 * 1000:=Nat.mul_le_mul h63 hb;omega
   obtain ⟨v',w',hr,h2,h3,h4⟩:=run_append_own (P:=P) w base t o.type e i z k bytes ht hi hz hsize hby hzs hk0 v xs.length (xs.flatMap enc) hown ad ys.length c (ys.flatMap enc) (X0z hk ys) hnews h1 (by unfold maxLen; omega) hbytes hbase
   unfold execOp;simp only [ho,resolve,invoke,builtin,Sem.run_bind,Sem.run_pure,Result.andThen_ok,List.map_toArray,List.map_cons,List.map_nil,hs,hx,hr];refine h v' w' ?_ h3;unfold Q0z;rw [List.length_append,List.flatMap_append];exact h2
end Go.Tw
namespace Go.Proofs
open Go.RowKit Go.Tw Go.Flow
attribute [local go_sem] Oper.semAt_some
theorem X0v (z:Array Value) (n:Nat):(Builtin.zeroCells z n).size=n * z.size:=by simp [Builtin.zeroCells]
theorem X8a (w:World) (e:TypeId) (z:Array Value) (k n:Nat) (hz:z.size=k) (hn:n <= 100000) :
    (w.drew.alloc (.cells (Builtin.zeroCells z n ++ Builtin.zeroCells z (grownCap w n 0 e - n)) e)).ownsRow w.heap.size e k (.slice (some ⟨w.heap.size,0,none⟩) 0 (grownCap w n 0 e)) 0 []:=by
 have h1:=grownCap_ge w n 0 e;have h2:=grownCap_le_maxLen w n 0 e (by unfold maxLen; omega)
 refine ⟨by simp,.inr ⟨w.heap.size,grownCap w n 0 e,_,rfl,Nat.le_refl _,heap_alloc_new w.drew _,Nat.zero_le _,h2,?_,by simp⟩⟩
 rw [Array.size_append,X0v,X0v,hz,<- Nat.add_mul]
 congr 1
 omega
theorem Tryz.X9e:(Tryz.prog.info? 9).map (fun i=>(i.zero,i.size,i.bytes))=some (some (.string emp),1,16):=by kernel_rfl
theorem Z0z (w:World) (n:Nat) (hn:n <= 100000) :
    Calls Tryz.prog 225 #[.slice none 0 0,.int .i64 n] w fun e w'=>∃ b c,e=.returned (.slice b 0 c) /\ w'.ownsRow w.heap.size 9 1 (.slice b 0 c) 0 [] /\ Ext w w':=by
 rcases Nat.eq_zero_or_pos n with h0 | h0
 . subst h0
   have HO:Hid (w.ownsRow w.heap.size 9 1 (.slice none 0 0) 0 []):=hid (World.ownsRow_nil w w.heap.size 9 1);go_enter Tryz.func225,Tryz.ntmps225;go_wp2;go_ret;exact ⟨_,_,rfl,HO.out,Ext.refl _⟩
 obtain ⟨i0,hi,hz0,hz1,hz2⟩:=info_parts Tryz.X9e;have hrun:=Lib.run_append_nil_zeros (P:=Tryz.prog) w 157 3 157 9 i0 (.string emp) .i64 .i64 Tryz.underlying157 Tryz.underlying3 hi hz0 n h0 (by rw [hz1]; decide) (by omega) (by rw [hz2]; omega)
 have HR:=hid hrun;have HO:=hid (X8a w 9 (.string emp:Value).cells 1 n rfl hn);have HX:Hid (Ext w (w.drew.alloc (.cells (Builtin.zeroCells (.string emp:Value).cells n ++ Builtin.zeroCells (.string emp:Value).cells (grownCap w n 0 9 - n)) 9))):=hid ((Ext.refl w).drew.alloc _);obtain ⟨gc,hgc⟩:∃ c,grownCap w n 0 9=c:=⟨_,rfl⟩;rw [hgc] at HR HO HX;obtain ⟨wz,hwz⟩:∃ x,w.drew.alloc (.cells (Builtin.zeroCells (.string emp:Value).cells n ++ Builtin.zeroCells (.string emp:Value).cells (gc - n)) 9)=x:=⟨_,rfl⟩;rw [hwz] at HR HO HX;clear hrun hgc hwz hi hz0 hz1 hz2;have hnI:(0:Int) < n:=by omega
 have g1:¬ (n:Int) < 0:=by omega
 go_enter Tryz.func225,Tryz.ntmps225;go_wp2_with (at_builtin; refine Lib.wpList_append_run _ rfl _ _ _ _ rfl _ _ rfl rfl _ _ HR.out ?_);go_ret;exact ⟨_,_,rfl,HO.out,HX.out⟩
theorem Z3x (w:World) (n:Nat) (hn:n <= 100000) :
    Calls Tryz.prog 232 #[.slice none 0 0,.int .i64 n] w fun e w'=>∃ b c,e=.returned (.slice b 0 c) /\ w'.ownsRow w.heap.size 159 4 (.slice b 0 c) 0 [] /\ Ext w w':=by
 rcases Nat.eq_zero_or_pos n with h0 | h0
 . subst h0
   have HO:Hid (w.ownsRow w.heap.size 159 4 (.slice none 0 0) 0 []):=hid (World.ownsRow_nil w w.heap.size 159 4);go_enter Tryz.func232,Tryz.ntmps232;go_wp2;go_ret;exact ⟨_,_,rfl,HO.out,Ext.refl _⟩
 obtain ⟨i0,hi,hz0,hz1,hz2⟩:=info_parts Tryz.Y4c;have hrun:=Lib.run_append_nil_zeros (P:=Tryz.prog) w 160 3 160 159 i0 (.agg #[.int .i64 0,.int .i64 0,.int .i64 0,.slice none 0 0]) .i64 .i64 Tryz.underlying160 Tryz.underlying3 hi hz0 n h0 (by rw [hz1]; decide) (by omega) (by rw [hz2]; omega)
 have HR:=hid hrun;have HO:=hid (X8a w 159 (.agg #[.int .i64 0,.int .i64 0,.int .i64 0,.slice none 0 0]:Value).cells 4 n rfl hn);have HX:Hid (Ext w (w.drew.alloc (.cells (Builtin.zeroCells (.agg #[.int .i64 0,.int .i64 0,.int .i64 0,.slice none 0 0]:Value).cells n ++ Builtin.zeroCells (.agg #[.int .i64 0,.int .i64 0,.int .i64 0,.slice none 0 0]:Value).cells (grownCap w n 0 159 - n)) 159))):=hid ((Ext.refl w).drew.alloc _);obtain ⟨gc,hgc⟩:∃ c,grownCap w n 0 159=c:=⟨_,rfl⟩;rw [hgc] at HR HO HX;obtain ⟨wz,hwz⟩:∃ x,w.drew.alloc (.cells (Builtin.zeroCells (.agg #[.int .i64 0,.int .i64 0,.int .i64 0,.slice none 0 0]:Value).cells n ++ Builtin.zeroCells (.agg #[.int .i64 0,.int .i64 0,.int .i64 0,.slice none 0 0]:Value).cells (gc - n)) 159)=x:=⟨_,rfl⟩;rw [hwz] at HR HO HX;clear hrun hgc hwz hi hz0 hz1 hz2;have hnI:(0:Int) < n:=by omega
 have g1:¬ (n:Int) < 0:=by omega
 go_enter Tryz.func232,Tryz.ntmps232;go_wp2_with (at_builtin; refine Lib.wpList_append_run _ rfl _ _ _ _ rfl _ _ rfl rfl _ _ HR.out ?_);go_ret;exact ⟨_,_,rfl,HO.out,HX.out⟩
def X3m {α:Type} (l1 l2:List α) (k:Nat):List α:=if k=0 then [] else if k=1 then l1 else l1 ++ l2
theorem Q3o {α:Type} (l1 l2:List α):X3m l1 l2 1=l1:=rfl
theorem Q4t {α:Type} (l1 l2:List α):X3m l1 l2 2=l1 ++ l2:=rfl
theorem Y7q {α:Type} {w:World} {B:Nat} {e:TypeId} {enc:α -> Value} {v:Value} {l:List α} (h:Q0q w B e enc v l):Src w enc v l:=by
 obtain ⟨A,c,rfl,_,hc⟩:=h.cells;refine ⟨A,c,rfl,fun j hj=>?_⟩;obtain ⟨g,hA,_,_,hcell⟩:=hc j hj;exact ⟨g,0,hA,hcell⟩
theorem Y3g {w:World} {B n c:Nat} {A:Option Addr} {ps:List PV} (h:Q0z w B 159 4 Q2f (.slice A n c) ps):0 < ps.length -> ∃ ad,A=some ad /\ ∀ j u,(ps.flatMap Q2f)[j]?=some u -> w.cell? (ad.add j)=some u:=by
 intro h0
 rcases OwnP.cases h with ⟨_,h1⟩ | ⟨g,cap,cur,he,_,hb,_,_,_,ht⟩
 . rw [h1] at h0; simp at h0
 . cases he
   refine ⟨_,rfl,fun j u hu=>?_⟩;rw [<- ht,List.getElem?_take] at hu
   split at hu
   . rw [addr_add,Nat.zero_add,hb.cell]
     simpa using hu
   . cases hu
theorem Y2j {w:World} {ps:List PV} (h:Q0j w ps):∀ u ∈ ps.flatMap Q2f,u.oneCell'=true:=by
 intro u hu;obtain ⟨q,hq,hu⟩:=List.mem_flatMap.1 hu;exact Y6z h hq u hu
theorem X5x (w:World) (g:Nat) (TS:TypeId) (a b:Value) (B1 B2:Nat) (l1 l2:List ByteArray) (hB:Blk w g TS #[a,b]) (ha:Q0q w B1 9 .string a l1) (hb:Q0q w B2 9 .string b l2) (hl:l1.length + l2.length <= 90000) :
    Calls Tryz.prog 196 #[.slice (some ⟨g,0,none⟩) 2 2] w fun e w'=>∃ x,e=.returned x /\ Q0q w' w.heap.size 9 .string x (l1 ++ l2) /\ Ext w w':=by
 have c0:=hB.cell 0;have c1:=hB.cell 1;simp only [Go.Tw.gA,Go.Tw.gB,Go.Tw.gC] at c0 c1;have HA:=hid ha;have HB:=hid hb;obtain ⟨A,ca,hA,-⟩:=ha.shape;obtain ⟨B,cb,hB',-⟩:=hb.shape;subst hA;subst hB';have hl1:l1.length <= 1000000:=by omega
 have hl2:l2.length <= 1000000:=by omega
 have HBB:=hid hB;clear ha hb hB;go_enter Tryz.func196,Tryz.ntmps196;go_wp2
 go_loopw [3,11] (fun n i wr=>∃ (k:Nat),k <= 2 /\ i=.int .i64 k /\ n=.int .i64 (((X3m l1 l2 k).length:Nat):Int) /\ wr=w) (fun _ i _=>2 - (intOf i).toNat)
 case atStart=>exact ⟨0,Nat.zero_le _,rfl,rfl,rfl⟩
 case round =>
  obtain ⟨k,hk,rfl,rfl,rfl⟩:=hrel;obtain rfl | rfl | rfl:k=0 ∨ k=1 ∨ k=2:=by omega
  . have e0:(((X3m l1 l2 0).length:Nat):Int)=0:=rfl
    rw [e0];go_wp2;go_roundw
    case rel=>exact ⟨1,by omega,rfl,by rw [Q3o]; try simp,trivial⟩
    case measure=>simp [intOf]
  . rw [Q3o]
    go_wp2;go_roundw
    case rel=>exact ⟨2,by omega,rfl,by rw [Q4t,List.length_append]; try go_num,trivial⟩
    case measure=>simp [intOf]
  . rw [Q4t,List.length_append]
    obtain ⟨W0,rfl⟩:∃ X,X=wr:=⟨_,rfl⟩;have e2:(((l1.length + l2.length:Nat)):Int)=(l1.length:Int) + l2.length:=by omega
    go_wp2_with fail;refine (Z0z _ (l1.length + l2.length) (by omega)).mono ?_
    rintro e w1 ⟨bg,cg,rfl,hg,hx1⟩;have HG:Hid (Q0q w1 W0.heap.size 9 .string (.slice bg 0 cg) ([]:List ByteArray)):=hid hg;have HX1:=hid hx1;replace c0:=hx1.cell c0;replace c1:=hx1.cell c1;obtain ⟨i0,hi,hz0,hz1,hz2⟩:=info_parts Tryz.X9e;clear hg hx1 e2;go_wp2
    go_loopw [6,27] (fun o i wq=>∃ (k:Nat),k <= 2 /\ i=.int .i64 k /\ Q0q wq W0.heap.size 9 .string o (X3m l1 l2 k) /\ Ext W0 wq) (fun _ i _=>2 - (intOf i).toNat)
    case atStart=>exact ⟨0,Nat.zero_le _,rfl,HG.out,HX1.out⟩
    case round =>
     clear HG HX1 c0 c1;obtain ⟨k,hk,rfl,hown,hx⟩:=hrel;have HX:=hid hx;have HOW:=hid hown;have c0:=(HBB.out.ext hx).cell 0;have c1:=(HBB.out.ext hx).cell 1;simp only [Go.Tw.gA,Go.Tw.gB,Go.Tw.gC] at c0 c1;clear hown hx;obtain rfl | rfl | rfl:k=0 ∨ k=1 ∨ k=2:=by omega
     . go_wp2_with (refine Q1z (o:=⟨some 33,_,_,_,_,_⟩) rfl ?_; refine Q5d (.tmp 31) (.tmp 32) 157 rfl W0.heap.size 9 i0 (.string emp) 16 Tryz.underlying157 hi hz0 hz1 hz2 rfl .string _ _ (X3m l1 l2 0) l1 rfl HOW.out rfl (Y7q (HA.out.below HX.out)) (fun _ _=>rfl) (by first | (rw [Q3o]; omega) | (show 0 + _ <= _; omega)) (by decide) HX.out.size ?_; intro v' w9 hown' hgrow)
       have hx':Ext W0 w9:=Below.grown HX.out hgrow (by have:=HX.out.size; omega) (fun j hj=>(HOW.out.lt j hj).1)
       have HX':=hid hx';have HOW':=hid hown';clear hx' hown' hgrow;go_wp2;go_roundw
       case rel=>exact ⟨1,by omega,rfl,by rw [Q3o]; exact HOW'.out,HX'.out⟩
       case measure=>simp [intOf]
     . go_wp2_with (refine Q1z (o:=⟨some 33,_,_,_,_,_⟩) rfl ?_; refine Q5d (.tmp 31) (.tmp 32) 157 rfl W0.heap.size 9 i0 (.string emp) 16 Tryz.underlying157 hi hz0 hz1 hz2 rfl .string _ _ (X3m l1 l2 1) l2 rfl HOW.out rfl (Y7q (HB.out.below HX.out)) (fun _ _=>rfl) (by first | (rw [Q3o]; omega) | (show 0 + _ <= _; omega)) (by decide) HX.out.size ?_; intro v' w9 hown' hgrow)
       have hx':Ext W0 w9:=Below.grown HX.out hgrow (by have:=HX.out.size; omega) (fun j hj=>(HOW.out.lt j hj).1)
       have HX':=hid hx';have HOW':=hid hown';clear hx' hown' hgrow;go_wp2;go_roundw
       case rel=>exact ⟨2,by omega,rfl,by rw [Q4t]; exact HOW'.out,HX'.out⟩
       case measure=>simp [intOf]
     . go_wp2
       go_ret;exact ⟨_,rfl,by rw [<- Q4t]; exact HOW.out,HX.out⟩
theorem Y5w (w:World) (g:Nat) (TS:TypeId) (a b:Value) (B1 B2:Nat) (l1 l2:List PV) (hB:Blk w g TS #[a,b]) (ha:Q0z w B1 159 4 Q2f a l1) (hb:Q0z w B2 159 4 Q2f b l2) (h1:∀ u ∈ l1.flatMap Q2f,u.oneCell'=true) (h2:∀ u ∈ l2.flatMap Q2f,u.oneCell'=true) (hl:l1.length + l2.length <= 90000) :
    Calls Tryz.prog 199 #[.slice (some ⟨g,0,none⟩) 2 2] w fun e w'=>∃ x,e=.returned x /\ Q0z w' w.heap.size 159 4 Q2f x (l1 ++ l2) /\ Ext w w':=by
 have c0:=hB.cell 0;have c1:=hB.cell 1;simp only [Go.Tw.gA,Go.Tw.gB,Go.Tw.gC] at c0 c1;have HA:=hid ha;have HB:=hid hb;obtain ⟨A,ca,hA,-⟩:=ha.shape;obtain ⟨B,cb,hB',-⟩:=hb.shape;subst hA;subst hB';have hl1:l1.length <= 1000000:=by omega
 have hl2:l2.length <= 1000000:=by omega
 have HBB:=hid hB;have HC1:=hid h1;have HC2:=hid h2;clear h1 h2;clear ha hb hB;go_enter Tryz.func199,Tryz.ntmps199;go_wp2
 go_loopw [3,11] (fun n i wr=>∃ (k:Nat),k <= 2 /\ i=.int .i64 k /\ n=.int .i64 (((X3m l1 l2 k).length:Nat):Int) /\ wr=w) (fun _ i _=>2 - (intOf i).toNat)
 case atStart=>exact ⟨0,Nat.zero_le _,rfl,rfl,rfl⟩
 case round =>
  obtain ⟨k,hk,rfl,rfl,rfl⟩:=hrel;obtain rfl | rfl | rfl:k=0 ∨ k=1 ∨ k=2:=by omega
  . have e0:(((X3m l1 l2 0).length:Nat):Int)=0:=rfl
    rw [e0];go_wp2;go_roundw
    case rel=>exact ⟨1,by omega,rfl,by rw [Q3o]; try simp,trivial⟩
    case measure=>simp [intOf]
  . rw [Q3o]
    go_wp2;go_roundw
    case rel=>exact ⟨2,by omega,rfl,by rw [Q4t,List.length_append]; try go_num,trivial⟩
    case measure=>simp [intOf]
  . rw [Q4t,List.length_append]
    obtain ⟨W0,rfl⟩:∃ X,X=wr:=⟨_,rfl⟩;have e2:(((l1.length + l2.length:Nat)):Int)=(l1.length:Int) + l2.length:=by omega
    go_wp2_with fail;refine (Z3x _ (l1.length + l2.length) (by omega)).mono ?_
    rintro e w1 ⟨bg,cg,rfl,hg,hx1⟩;have HG:Hid (Q0z w1 W0.heap.size 159 4 Q2f (.slice bg 0 cg) ([]:List PV)):=hid hg;have HX1:=hid hx1;replace c0:=hx1.cell c0;replace c1:=hx1.cell c1;obtain ⟨i0,hi,hz0,hz1,hz2⟩:=info_parts Tryz.Y4c;clear hg hx1 e2;go_wp2
    go_loopw [6,27] (fun o i wq=>∃ (k:Nat),k <= 2 /\ i=.int .i64 k /\ Q0z wq W0.heap.size 159 4 Q2f o (X3m l1 l2 k) /\ Ext W0 wq) (fun _ i _=>2 - (intOf i).toNat)
    case atStart=>exact ⟨0,Nat.zero_le _,rfl,HG.out,HX1.out⟩
    case round =>
     clear HG HX1 c0 c1;obtain ⟨k,hk,rfl,hown,hx⟩:=hrel;have HX:=hid hx;have HOW:=hid hown;have c0:=(HBB.out.ext hx).cell 0;have c1:=(HBB.out.ext hx).cell 1;simp only [Go.Tw.gA,Go.Tw.gB,Go.Tw.gC] at c0 c1;clear hown hx;obtain rfl | rfl | rfl:k=0 ∨ k=1 ∨ k=2:=by omega
     . go_wp2_with (refine Q1z (o:=⟨some 33,_,_,_,_,_⟩) rfl ?_; refine Q9q (.tmp 31) (.tmp 32) 160 rfl W0.heap.size 159 i0 (.agg #[.int .i64 0,.int .i64 0,.int .i64 0,.slice none 0 0]) 4 48 Tryz.underlying160 hi hz0 hz1 hz2 rfl (by decide) Q2f Q3h _ (X3m l1 l2 0) l1 rfl HOW.out A ca rfl (Y3g (HA.out.below HX.out)) HC1.out (by first | (rw [Q3o]; omega) | (show 0 + _ <= _; omega)) (by decide) HX.out.size ?_; intro v' w9 hown' hgrow)
       have hx':Ext W0 w9:=Below.grown HX.out hgrow (by have:=HX.out.size; omega) (fun j hj=>(HOW.out.lt j hj).1)
       have HX':=hid hx';have HOW':=hid hown';clear hx' hown' hgrow;go_wp2;go_roundw
       case rel=>exact ⟨1,by omega,rfl,by rw [Q3o]; exact HOW'.out,HX'.out⟩
       case measure=>simp [intOf]
     . go_wp2_with (refine Q1z (o:=⟨some 33,_,_,_,_,_⟩) rfl ?_; refine Q9q (.tmp 31) (.tmp 32) 160 rfl W0.heap.size 159 i0 (.agg #[.int .i64 0,.int .i64 0,.int .i64 0,.slice none 0 0]) 4 48 Tryz.underlying160 hi hz0 hz1 hz2 rfl (by decide) Q2f Q3h _ (X3m l1 l2 1) l2 rfl HOW.out B cb rfl (Y3g (HB.out.below HX.out)) HC2.out (by first | (rw [Q3o]; omega) | (show 0 + _ <= _; omega)) (by decide) HX.out.size ?_; intro v' w9 hown' hgrow)
       have hx':Ext W0 w9:=Below.grown HX.out hgrow (by have:=HX.out.size; omega) (fun j hj=>(HOW.out.lt j hj).1)
       have HX':=hid hx';have HOW':=hid hown';clear hx' hown' hgrow;go_wp2;go_roundw
       case rel=>exact ⟨2,by omega,rfl,by rw [Q4t]; exact HOW'.out,HX'.out⟩
       case measure=>simp [intOf]
     . go_wp2
       go_ret;exact ⟨_,rfl,by rw [<- Q4t]; exact HOW.out,HX.out⟩
end Go.Proofs
