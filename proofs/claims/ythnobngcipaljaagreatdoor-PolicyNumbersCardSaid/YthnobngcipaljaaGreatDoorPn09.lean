/- Contract of the reference: closings. Contract of the reference: Play. Worlds that differ from an earlier one in one block alone; slices of structs appended to in such a world. A whole load of a block inside a drawn region. Contract of the reference: Kept. -/
import Derived.Test.YthnobngcipaljaaGreatDoorPn08
import Derived.Test.YthnobngcipaljaaGreatDoorPn05
import Derived.Test.YthnobngcipaljaaGreatDoorPn03
set_option maxRecDepth 1000000
set_option maxHeartbeats 64000000
set_option linter.unusedVariables false
set_option linter.unusedSimpArgs false
set_option linter.constructorNameAsVariable false
open Go.Lib (hid)
namespace Go.Proofs
open Go.RowKit Go.Tw Go.Flow
attribute [local go_sem] Oper.semAt_some
theorem Q9q {w:World} {A:Option Addr} {n cap:Nat} {l:List Int} (h:Q0e w (.slice A n cap) l) {k:Nat} (hk:k <= l.length):Q0e w (.slice A k cap) (l.take k):=by
 obtain ⟨c,⟨A',cap',hv,hn,hcap,hc⟩,h2⟩:=h;injection hv with e1 e2 e3;subst e1 e2 e3;have hlk:(l.take k).length=k:=by rw [List.length_take]; omega
 refine ⟨c,⟨A,cap,by rw [hlk],by omega,by omega,fun j hj=>hc j (by omega)⟩,fun j hj=>?_⟩
 rw [List.getElem_take];exact h2 j (by omega)
theorem Y3g (p:List Rul) (l:List Int) (t:Nat):X1n p l (t + 1)=X1n p l t ++ Q2p p (l.take (t + 1)):=by
 unfold X1n;rw [List.range_succ,List.flatMap_append];simp
theorem Y7g (p:List Rul) (h:List Int) {j:Nat} (hj:j < p.length):Q2p (p.take (j + 1)) h=if Q0n p j=h then Q2p (p.take j) h ++ [Q3v p j] else Q2p (p.take j) h:=by
 unfold Q2p Q0n Q3v;rw [List.take_succ_eq_append_getElem hj,List.filter_append,List.map_append,Q0t _ hj]
 by_cases h1:p[j].classes=h
 . rw [if_pos h1]; simp [h1]
 . rw [if_neg h1]; simp [h1]
theorem X7v (p:List Rul) (h:List Int):(Q2p p h).length <= p.length:=by
 unfold Q2p;rw [List.length_map];exact List.length_filter_le _ _
theorem X9m (p:List Rul) (l:List Int):∀ t,(X1n p l t).length <= t * p.length
 | 0=>by simp [X1n]
 | t + 1=>by
   rw [Y3g,List.length_append,Nat.add_mul,Nat.one_mul];have:=X9m p l t;have:=X7v p (l.take (t + 1));omega
theorem Tryz.X7o:(Tryz.prog.info? 4).map (fun i=>(i.zero,i.size,i.bytes))=some (some (.bool false),1,1):=by kernel_rfl
theorem X3c (w:World) (v u:Value) (s:Q0b) (p:List Rul) (i:Nat) (hv:Q0f w v s) (hu:Q0j w u p) (him:i < s.members.length) (hl:(Q0c s.members i).length=s.ships.length) (ht:s.ships.length <= 8) (hp:p.length <= 100) :
    Calls Tryz.prog 106 #[v,u,.int .i64 (i:Int)] w fun e w'=>∃ x,e=.returned x /\ Q0r w' x (X1n p (Q0c s.members i) s.ships.length) /\ Ext w w':=by
 obtain ⟨i0,hi,hz0,hz1,hz2⟩:=info_parts Tryz.X7o;obtain ⟨a,b,rfl,h2⟩:=hv;obtain ⟨rv,rfl,hr⟩:=hu;obtain ⟨A,capa,rfl,hla,-,-⟩:=h2.ships.opened;obtain ⟨B,capb,rfl,hlb,-,hc⟩:=h2.members.opened;obtain ⟨R,capr,rfl,hlr,-,hcr⟩:=hr.opened;obtain ⟨bm,off,x,y,z,rfl,hbm,e0,e1,e2,e3,e4,hx,hy,hz,-⟩:=hc i him;obtain ⟨C,capc,rfl,-,hcapc,hcC⟩:=hx.opened;have HCR:=hid hcr;have HXI:=hid hx;have HE2:=hid e2;have hiI:(i:Int) < s.members.length:=by omega
 rw [hl] at hcapc;have HCX:=hid hcC;obtain ⟨lc,hlc⟩:∃ x,Q0c s.members i=x:=⟨_,rfl⟩;rw [hlc] at hl HXI HE2 HCX ⊢;rw [hl] at HE2;have HLEN:=hid hl;clear hc hx hy hz hcC hcr hr h2 hlc e0 e1 e2 e3 e4 hl;go_enter Tryz.func106,Tryz.ntmps106;go_wp2_with fail;change Code.wp _ _ _ _ ((w.alloc (.cells #[.int .i64 s.limit,.slice A s.ships.length capa,.slice (some ⟨bm,off,none⟩) s.members.length capb] 25)).alloc (.cells #[.slice R p.length capr] 47));obtain ⟨W,hWW,k0,k1,HXW,eW⟩:=Q2t w 25 #[.int .i64 s.limit,.slice A s.ships.length capa,.slice (some ⟨bm,off,none⟩) s.members.length capb] 47 #[.slice R p.length capr];rw [hWW];clear hWW;have K0:=hid k0;have K1:=hid k1;obtain ⟨gs,hgs⟩:∃ x,w.heap.size=x:=⟨_,rfl⟩;rw [hgs] at K0 K1 eW ⊢;clear k0 k1
 go_loopw [7,8] (fun o t wr=>∃ (k:Nat),k <= s.ships.length /\ t=.int .i64 k /\ Q0m wr W.heap.size 4 .bool o (X1n p lc k) /\ Ext W wr) (fun _ t _=>s.ships.length - (intOf t).toNat)
 case atStart=>exact ⟨0,Nat.zero_le _,rfl,Q0m.nil _ _ _ _,Ext.refl _⟩
 case round =>
  obtain ⟨k,hk,rfl,hown,hxk⟩:=hrel;have c1:=(K0.out.ext hxk).cell 1;simp only [Go.Tw.gA,Go.Tw.gB,Go.Tw.gC] at c1;have HXK:=hid hxk;have HOW:=hid hown;clear hxk hown
  by_cases hlt:k < s.ships.length
  . have hkI:(k:Int) < s.ships.length:=by omega
    obtain ⟨bc,oc,hCe,_⟩:=HCX.out k (by rw [HLEN.out]; exact hlt)
    subst hCe
    go_light
    go_wp2_with fail
    go_loopw [7,9] (fun o j wr=>∃ (m:Nat),m <= p.length /\ j=.int .i64 m /\ Q0m wr W.heap.size 4 .bool o (X1n p lc k ++ Q2p (p.take m) (lc.take (k + 1))) /\ Ext W wr) (fun _ j _=>p.length - (intOf j).toNat)
    case atStart=>exact ⟨0,Nat.zero_le _,rfl,by rw [List.take_zero,show Q2p [] (lc.take (k + 1))=[] from rfl,List.append_nil]; exact HOW.out,HXK.out⟩
    case round =>
     obtain ⟨m,hm,rfl,hown,hxr⟩:=hrel;have p0:=(K1.out.ext hxr).cell 0;simp only [Go.Tw.gA,Go.Tw.gB,Go.Tw.gC] at p0;have HXR:=hid hxr;have HOR:=hid hown;clear hxr hown
     by_cases hml:m < p.length
     . obtain ⟨br,orr,xr,hR,_,hx0,hx1,hxi⟩:=HCR.out m hml
       subst hR;have hmI:(m:Int) < p.length:=by omega
       obtain ⟨Xr,cxr,rfl,-,-,-⟩:=hxi.opened;have hsuc:=Y7g p (lc.take (k + 1)) hml;obtain ⟨cl,hcl⟩:∃ x,Q0n p m=x:=⟨_,rfl⟩;obtain ⟨cb,hcb⟩:∃ x,Q3v p m=x:=⟨_,rfl⟩;rw [hcl] at hx0 hxi hsuc;rw [hcb] at hx1 hsuc;have HCLS:=hid hxi;have HSUC:=hid hsuc;obtain ⟨hk1,hhk⟩:∃ x,lc.take (k + 1)=x:=⟨_,rfl⟩;have HPRE:Hid (Q0e w (.slice (some ⟨bc,oc,none⟩) (k + 1) capc) hk1):=hid (by rw [<- hhk]; rw [show (Value.slice (some ⟨bc,oc,none⟩) (k + 1) capc)=.slice (some ⟨bc,oc,none⟩) (k + 1) capc from rfl]; exact Q9q HXI.out (by rw [HLEN.out]; omega))
       rw [hhk] at HSUC HOR ⊢;obtain ⟨q,hq⟩:∃ q,decide (cl=hk1)=q:=⟨_,rfl⟩;have HQ:=hid hq;have hkc:k + 1 <= capc:=by omega
       have hkcI:(k:Int) + 1 <= (capc:Int):=by omega
       have hkc1:¬ ((0:Int) <= (k:Int) + 1 -> (capc:Int) < (k:Int) + 1):=by omega
       have hkc2:¬ capc=0:=by omega
       have hkc4:¬ (k:Int) + 1 < 0:=by omega
       have hkc3:((k:Int) + 1).toNat=k + 1:=by omega
       have hwk:IntKind.i64.wrap ((k:Int) + 1)=(k:Int) + 1:=Q2h _ (by omega) (by omega)
       have hdr:=(Ext.refl wr).drew;have HX0:=hid hx0;have HX1:=hid hx1;clear hx0 hx1 hxi hsuc hcl hcb hhk hq;have HE3:=hid HE2.out
       go_light
       go_wp2;refine Flow.Q1d [.p,.w,.p,.p,.p,.w,.p,.w,.p,.p,.p,.w,.p,.p,.p,.w] [0,1,2,3,4,5,6,7,8,9,10,11,12,13,14,15] [[],[0],[],[1,2],[3],[4],[],[6],[],[7,8],[9],[10],[],[12],[11,13],[5,14]]
        [.c 0 (.pointer (some ⟨gs + 1,0,none⟩)),.c 1 (.slice (some ⟨br,orr,none⟩) p.length capr),.c 2 (.int .i64 (m:Int)),.c 3 (.pointer (some ⟨br,orr + m * 2,none⟩)),.c 4 (.pointer (some ⟨br,orr + m * 2,none⟩)),.c 5 (.slice Xr cl.length cxr),.c 6 (.pointer (some ⟨gs,2,none⟩)),.c 7 (.slice (some ⟨bm,off,none⟩) s.members.length capb),.c 8 (.int .i64 (i:Int)),.c 9 (.pointer (some ⟨bm,off + i * 5,none⟩)),.c 10 (.pointer (some ⟨bm,off + i * 5 + 2,none⟩)),.c 11 (.slice (some ⟨bc,oc,none⟩) s.ships.length capc),.c 12 (.int .i64 (k:Int)),.c 13 (.int .i64 ((k:Int) + 1)),.c 14 (.slice (some ⟨bc,oc,none⟩) (k + 1) capc),.c 15 (.bool q)]
        (by kernel_rfl) rfl (by kernel_rfl) ⟨?g0,?g1,?g2,?g3,?g4,?g5,?g6,?g7,?g8,?g9,?g10,?g11,?g12,?g13,?g14,?g15,trivial⟩ ?post
       case g0 | g2 | g6 | g8 | g12=>
        intro v w1 hx;intro bb hbb;subst hbb;refine ⟨_,fun w=>?_,rfl⟩;go_simp
       case g1 | g5 | g7 | g11=>
        intro v w1 hx;(repeat intro (zq:v _=_));intro bb hbb;subst hbb;have n0:w1.cell? ⟨gs + 1,0,none⟩=some (.slice (some ⟨br,orr,none⟩) p.length capr):=(K1.out.ext (HXR.out.trans (hdr.trans hx))).cell 0;have n1:w1.cell? ⟨br,orr + m * 2,none⟩=some (.slice Xr cl.length cxr):=(HXW.out.trans (HXR.out.trans (hdr.trans hx))).cell HX0.out;have n2:w1.cell? ⟨gs,2,none⟩=some (.slice (some ⟨bm,off,none⟩) s.members.length capb):=(K0.out.ext (HXR.out.trans (hdr.trans hx))).cell 2;have n3:w1.cell? ⟨bm,off + i * 5 + 2,none⟩=some (.slice (some ⟨bc,oc,none⟩) s.ships.length capc):=(HXW.out.trans (HXR.out.trans (hdr.trans hx))).cell HE3.out;intro K hK;go_simp;exact hK _ _ (Ext.refl _) rfl
       case g3 | g4 | g9 | g10 | g13 | g14=>
        intro v w1 hx;(repeat intro (zq:v _=_));intro bb hbb;subst hbb;refine ⟨_,fun w=>?_,rfl⟩;go_simp
       case g15=>
        intro v w1 hx;(repeat intro (zq:v _=_));intro bb hbb;subst hbb;intro K hK;go_simp;refine Q0d (Q4a w1 _ _ cl hk1 (HCLS.out.ext (HXW.out.trans (HXR.out.trans (hdr.trans hx)))) (HPRE.out.ext (HXW.out.trans (HXR.out.trans (hdr.trans hx))))) ?_;rintro e w2 ⟨rfl,hx2⟩;rw [HQ.out];exact ⟨_,rfl,hK _ _ hx2 rfl⟩
       case post =>
        intro v w1 hx;(iterate 16 intro (zq:v _=_));simp only [Flow.All,Flow.acts,Act.put];go_simp;have hxx:=HXR.out.trans (hdr.trans hx);have hown:=HOR.out.below (hdr.trans hx);have pp0:=(K1.out.ext hxx).cell 0;simp only [Go.Tw.gA,Go.Tw.gB,Go.Tw.gC] at pp0;have hcb:=(HXW.out.trans hxx).cell HX1.out;have HXX:=hid hxx;clear hx hdr hkc1 hkc2 hkc3 hkc4 hkcI hwk p0;(repeat clear zq);obtain ⟨w3,rfl⟩:∃ X,X=w1:=⟨_,rfl⟩;cases q with
        | true =>
          have hqe:cl=hk1:=of_decide_eq_true HQ.out;have HST:Hid (X1n p lc k ++ Q2p (p.take (m + 1)) hk1=X1n p lc k ++ Q2p (p.take m) hk1 ++ [cb]):=hid (by rw [HSUC.out,if_pos hqe,List.append_assoc])
          have hlen1:=X9m p lc k;have hlen2:k * p.length <= 8 * 100:=Nat.mul_le_mul (by omega) hp
          have hlen3:=X7v (p.take m) hk1;have hlen4:(p.take m).length <= m:=by rw [List.length_take]; omega
          have hll:(X1n p lc k ++ Q2p (p.take m) hk1).length <= 4096:=by rw [List.length_append]; omega
          have HOW3:=hid hown;have hx3:=HXX.out;clear hqe hlen1 hlen2 hlen3 hlen4;go_wp2_with (at_builtin; refine wpList_append_own _ rfl _ _ 82 rfl (W.heap.size) 4 i0 (.bool false) 1 1 Tryz.underlying82 hi hz0 hz1 hz2 rfl (by decide) _ _ _ rfl (World.ownsRow.alloc hown _) ⟨w3.heap.size,0,none⟩ 1 1 [.bool cb] rfl rfl ?_ ?_ ?_ ?_ ?_ ?_; exact Q3i _ _ _; (focus (simp [Value.oneCell'])); (focus (unfold maxLen; omega)); (focus omega); (focus (have:=hx3.size; simp at this ⊢; omega)); intro v' w1 hown' hgrow _)
          have hx':=Q2e hx3 HOW3.out (Nat.le_refl _) hgrow;go_roundw
          case rel=>exact ⟨m + 1,by omega,by go_num,by rw [HST.out]; exact Q0m.snoc hown',hx'⟩
          case measure=>simp [intOf]; omega
        | false =>
          have hqe:¬ cl=hk1:=of_decide_eq_false HQ.out;have HST:Hid (Q2p (p.take (m + 1)) hk1=Q2p (p.take m) hk1):=hid (by rw [HSUC.out,if_neg hqe])
          have HOW3:=hid hown;clear hqe hown;go_wp2;go_roundw
          case rel=>exact ⟨m + 1,by omega,by go_num,by rw [HST.out]; exact HOW3.out,HXX.out⟩
          case measure=>simp [intOf]; omega
     . have hmI:¬ (m:Int) < p.length:=by omega
       have hme:m=p.length:=by omega
       subst hme;have HNX:Hid (X1n p lc k ++ Q2p (p.take p.length) (lc.take (k + 1))=X1n p lc (k + 1)):=hid (by rw [List.take_length,Y3g])
       go_wp2;go_roundw
       case rel=>exact ⟨k + 1,by omega,by go_num,by rw [<- HNX.out]; exact HOR.out,HXR.out⟩
       case measure=>simp [intOf]; omega
  . have hkI:¬ (k:Int) < s.ships.length:=by omega
    have hke:k=s.ships.length:=by omega
    subst hke;go_wp2;go_ret;exact ⟨_,rfl,HOW.out.bools (by have:=X9m p lc s.ships.length; have:s.ships.length * p.length <= 8 * 100:=Nat.mul_le_mul ht hp; omega),HXW.out.trans HXK.out⟩
end Go.Proofs
namespace Go.Proofs
open Go.RowKit Go.Tw Go.Flow
theorem Z3s (h:List Int) (row:List (List Int)):(Q6r h row).length <= row.length + 1:=by
 unfold Q6r;have hb:=(posB h row row.length).1;dsimp only
 split
 . omega
 . rw [List.length_append,List.length_append,List.length_take,List.length_drop,List.length_singleton]
   omega
theorem X3a (s:Q0b) (t:Nat):∀ i,(s.Q5p t i).length <= i
 | 0=>by simp [Q0b.Q5p]
 | i + 1=>by
   have:=X3a s t i;have:=Z3s ((Q0c s.members i).take (t + 1)) (s.Q5p t i);unfold Q0b.Q5p;omega
theorem X4b (s:Q0b):∀ n,(s.Q5i n).length <= n * s.members.length
 | 0=>by simp [Q0b.Q5i]
 | n + 1=>by
   have:=X4b s n;have:=X3a s n s.members.length;unfold Q0b.Q5i;rw [List.length_append,Nat.add_mul,Nat.one_mul];omega
theorem X2v {s:Q0b} (hS:Q0u s):s.hist.length <= 48:=by
 have:=X4b s s.ships.length;have h2:s.ships.length * s.members.length <= 6 * 8:=Nat.mul_le_mul hS.tides.2 hS.some.2;unfold Q0b.hist;omega
theorem J4e {s:Q0b} (hS:Q0u s) {p:List Rul} (hp:Q1c s.hist p=0):p.length <= 48:=by
 have:=X2v hS;rw [<- Q2l.1 hp,List.length_map] at this;exact this
theorem Tryz.Q5h (w:World):(isAgg 25).run Tryz.prog w=.ok true w:=by kernel_rfl
theorem Tryz.Q3p (w:World):(sizeOf 25).run Tryz.prog w=.ok 3 w:=by kernel_rfl
theorem Tryz.Q6w (w:World):(isAgg 47).run Tryz.prog w=.ok true w:=by kernel_rfl
theorem Tryz.Q4t (w:World):(sizeOf 47).run Tryz.prog w=.ok 1 w:=by kernel_rfl
theorem Tryz.J6a (w:World):(isAgg 99).run Tryz.prog w=.ok true w:=by kernel_rfl
theorem Tryz.Z6u (w:World):(sizeOf 99).run Tryz.prog w=.ok 2 w:=by kernel_rfl
theorem X6s (w:World) (a b:Option Addr) (n c m d:Nat):(Instr.build 99 #[(0,.slice a n c),(1,.slice b m d)]).run Tryz.prog w=.ok (.agg #[.slice a n c,.slice b m d]) w:=by kernel_rfl
theorem Y7q {w w':World} {g b k:Nat} {T:TypeId} {cs:Array Value} {x:Value} (hb:Blk w g T cs) (hx:∀ u ∈ cs.toList,u ≠ x) (ho:∀ k,k ≠ g -> w'.heap[k]?=w.heap[k]?) (h:w.cell? ⟨b,k,none⟩=some x):w'.cell? ⟨b,k,none⟩=some x:=by
 by_cases hbg:b=g
 . subst hbg
   rw [hb.cell] at h;have hm:x ∈ cs:=Array.mem_of_getElem? h;exact absurd rfl (hx x (Array.mem_toList_iff.2 hm))
 . rw [<- h]
   exact World.cell?_of_block (w:=w) (ho b hbg)
theorem Z3m {w w':World} {v:Value} {l:List Bool} {g:Nat} {T:TypeId} {cs:Array Value} (h:Q0r w v l) (hb:Blk w g T cs) (hx:∀ u ∈ cs.toList,∀ b,u ≠ .bool b) (ho:∀ k,k ≠ g -> w'.heap[k]?=w.heap[k]?):Q0r w' v l:=by
 obtain ⟨c,⟨A,cap,hv,hn,hcap,hc⟩,h2⟩:=h;refine ⟨c,⟨A,cap,hv,hn,hcap,fun j hj=>?_⟩,h2⟩;obtain ⟨b,off,hA,h⟩:=hc j hj;refine ⟨b,off,hA,?_⟩;have e:=h2 j (by omega)
 simp only [Nat.mul_one,Nat.add_zero] at e;rw [e] at h ⊢;exact Y7q hb (fun u hu=>hx u hu _) ho h
theorem Z6k {w w':World} {v:Value} {l:List Int} {g:Nat} {T:TypeId} {cs:Array Value} (h:Q0e w v l) (hb:Blk w g T cs) (hx:∀ u ∈ cs.toList,∀ b,u ≠ .int .i64 b) (ho:∀ k,k ≠ g -> w'.heap[k]?=w.heap[k]?):Q0e w' v l:=by
 obtain ⟨c,⟨A,cap,hv,hn,hcap,hc⟩,h2⟩:=h;refine ⟨c,⟨A,cap,hv,hn,hcap,fun j hj=>?_⟩,h2⟩;obtain ⟨b,off,hA,h⟩:=hc j hj;refine ⟨b,off,hA,?_⟩;have e:=h2 j (by omega)
 simp only [Nat.mul_one,Nat.add_zero] at e;rw [e] at h ⊢;exact Y7q hb (fun u hu=>hx u hu _) ho h
attribute [local go_sem ↓] X6s
theorem Q9c (w:World) (v u:Value) (s:Q0b) (p:List Rul) (i:Nat) (hv:Q0f w v s) (hu:Q0j w u p) (hS:Q0u s) (hp:Q1c s.hist p=0) (him:i < s.members.length) :
    Calls Tryz.prog 106 #[v,u,.int .i64 (i:Int)] w fun e w'=>∃ x,e=.returned x /\ Q0r w' x (Q0i p (Q0c s.members i)) /\ Ext w w':=by
 have hl:=(hS.shaped i him).1;have h:=X3c w v u s p i hv hu him hl (by have:=hS.tides.2; omega) (by have:=J4e hS hp; omega)
 rw [Z1y hS.shaped hp him hl] at h;exact h
theorem Y5o (w:World) (v u:Value) (s:Q0b) (p:List Rul) (i:Nat) (hv:Q0f w v s) (hu:Q0j w u p) (hS:Q0u s) (hp:Q1c s.hist p=0) (him:i < s.members.length) :
    Calls Tryz.prog 60 #[v,u,.int .i64 (i:Int)] w fun e w'=>∃ x y,e=.returned (.agg #[x,y]) /\ Q0r w' x (Q0i p (Q0c s.members i)) /\ Q0e w' y ((Q1q s i).Q3z (Q0i p (Q0c s.members i))) /\ Ext w w':=by
 have hlen:=Q1p p (Q0c s.members i);have hsh:=hS.shaped i him;have h6:=hS.tides.2;have HC1:Hid (∀ (w:World) (v u:Value),Q0f w v s -> Q0j w u p -> Calls Tryz.prog 106 #[v,u,.int .i64 (i:Int)] w fun e w'=>∃ x,e=.returned x /\ Q0r w' x (Q0i p (Q0c s.members i)) /\ Ext w w'):=hid (fun w v u h1 h2=>Q9c w v u s p i h1 h2 hS hp him);have HF1:Hid (∀ (w:World) (v u:Value),Q0f w v s -> Q0r w u (Q0i p (Q0c s.members i)) -> Calls Tryz.prog 51 #[v,.int .i64 (i:Int),u] w fun e w'=>∃ x,e=.returned x /\ Q0e w' x ((Q1q s i).Q3z (Q0i p (Q0c s.members i))) /\ Ext w w'):=hid (fun w v u h1 h2=>X9r w v u s i _ h1 him h2 (by omega) (by rw [hlen,hsh.1]; exact Nat.le_of_eq hsh.2.1.symm) (by rw [hlen,hsh.1]; exact Nat.le_of_eq hsh.2.2.symm) (hS.inflow i him))
 obtain ⟨a,b,rfl,h2⟩:=hv;obtain ⟨rv,rfl,hr⟩:=hu;obtain ⟨A,capa,rfl,-,-,-⟩:=h2.ships.opened;obtain ⟨B,capb,rfl,-,-,-⟩:=h2.members.opened;obtain ⟨R,capr,rfl,-,-,-⟩:=hr.opened;have H2:=hid h2;have HR:=hid hr;obtain ⟨cl,hcl⟩:∃ x,Q0i p (Q0c s.members i)=x:=⟨_,rfl⟩;obtain ⟨pk,hpk⟩:∃ x,(Q1q s i).Q3z (Q0i p (Q0c s.members i))=x:=⟨_,rfl⟩;rw [hpk] at HF1 ⊢;rw [hcl] at HF1 HC1 ⊢;clear h2 hr hlen hsh h6 hcl hpk hS hp;go_enter Tryz.func60,Tryz.ntmps60;go_wp2_with fail;change Calls _ _ _ (((w.alloc (.cells #[.int .i64 s.limit,.slice A s.ships.length capa,.slice B s.members.length capb] 25)).alloc (.cells #[.slice R p.length capr] 47)).alloc (.cells #[.slice none 0 0,.slice none 0 0] 99)) _;obtain ⟨W,hWW,k0,k1,k2,HXW,eW⟩:=X1i w 25 #[.int .i64 s.limit,.slice A s.ships.length capa,.slice B s.members.length capb] 47 #[.slice R p.length capr] 99 #[.slice none 0 0,.slice none 0 0];rw [hWW];clear hWW;have K2:=hid k2;have HXX:=hid HXW.out;refine (HC1.out _ _ _ ⟨_,_,rfl,H2.out.ext HXW.out⟩ ⟨_,rfl,HR.out.ext HXW.out⟩).mono ?_;rintro e w1 ⟨x,rfl,hx,hx1⟩;obtain ⟨X,cx,rfl,-,-,-⟩:=hx.opened;have HCL:=hid hx;have HX1:=hid (HXX.out.trans hx1);have kk:=k0.ext hx1;have c0:=kk.cell 0;have c1:=kk.cell 1;have c2:=kk.cell 2;simp only [Go.Tw.gA,Go.Tw.gB,Go.Tw.gC] at c0 c1 c2;replace K2:=hid (K2.out.ext hx1);clear hx hx1 kk k0 k1 k2;go_wp2_with fail;refine (HF1.out _ _ _ ⟨_,_,rfl,H2.out.ext HX1.out⟩ HCL.out).mono ?_;rintro e w2 ⟨y,rfl,hy,hx2⟩;obtain ⟨Y,cy,rfl,-,-,-⟩:=hy.opened;have HPK:=hid hy;replace HCL:=hid (HCL.out.ext hx2);replace K2:=hid (K2.out.ext hx2);have HX2:=hid (HX1.out.trans hx2);have hgl:w.heap.size + 1 + 1 ≥ w.heap.size:=by omega
 clear hy hx2 c0 c1 c2;go_wp2_with (refine Q0x rfl _ _ 99 rfl Tryz.Z6u rfl rfl K2.out rfl rfl ?_ ?_; (focus (intro u hu; simp only [List.mem_cons,List.not_mem_nil,or_false] at hu; rcases hu with rfl | rfl <;> rfl)); intro w9 hb9 hl9 ho9)
 refine bodyPost_ret (Q1w Tryz.results60 rfl hb9 Tryz.J6a Tryz.Z6u) rfl ?_;have hne:∀ u ∈ (#[Value.slice none 0 0,Value.slice none 0 0]:Array Value).toList,∃ a n c,u=.slice a n c:=by
  intro u hu;simp only [List.mem_cons,List.not_mem_nil,or_false] at hu
  rcases hu with rfl | rfl <;> exact ⟨_,_,_,rfl⟩
 refine ⟨_,_,rfl,Z3m HCL.out K2.out (fun u hu b e=>?_) ho9,Z6k HPK.out K2.out (fun u hu b e=>?_) ho9,Below.trans HX2.out (hl9 _ hgl)⟩
 . obtain ⟨_,_,_,rfl⟩:=hne u hu; cases e
 . obtain ⟨_,_,_,rfl⟩:=hne u hu; cases e
end Go.Proofs
namespace Go.Tw
open Go.RowKit Go.Flow
def Off (O:Nat) (w w':World):Prop:=Below O w w' /\ w.heap.size <= w'.heap.size /\ ∀ b,b < w.heap.size -> b ≠ O -> w'.heap[b]?=w.heap[b]?
theorem Off.refl (O:Nat) (w:World):Off O w w:=⟨Below.refl _ _,Nat.le_refl _,fun _ _ _=>rfl⟩
theorem Off.ext {O:Nat} {a b c:World} (h:Off O a b) (hx:Ext b c) (hO:O <= b.heap.size):Off O a c :=
 ⟨h.1.trans (hx.mono hO),Nat.le_trans h.2.1 hx.size,fun k hk hne=>(Below.block hx k (Nat.lt_of_lt_of_le hk h.2.1)).trans (h.2.2 k hk hne)⟩
theorem Off.grown {O base n size:Nat} {e:TypeId} {v:Value} {xs:List Value} {a b c:World} (h:Off O a b) (hown:b.ownsRow base e size v n xs) (hb:a.heap.size <= base) (hO:O <= a.heap.size) (hg:b.grownBy c v.ownBlock):Off O a c:=by
 have hbel:Below O b c:=Below.grown (Below.refl _ _) hg (Nat.le_trans hO h.2.1) (fun k hk=>by have:=(hown.lt k hk).1; omega)
 have hbel2:Below a.heap.size b c:=Below.grown (Below.refl _ _) hg h.2.1 (fun k hk=>by have:=(hown.lt k hk).1; omega)
 exact ⟨h.1.trans hbel,Nat.le_trans h.2.1 hbel2.size,fun k hk hne=>(hbel2.block k hk).trans (h.2.2 k hk hne)⟩
theorem Off.set {O:Nat} {a b:World} (h:Off O a b) (k:Nat) (u:Value):Off O a (b.setCell ⟨O,k,none⟩ u) :=
 ⟨h.1.setCell (p:=⟨O,k,none⟩) (Nat.le_refl _) u,by simpa using h.2.1,fun j hj hne=>(Below.heap_setCell _ _ _ _ hne).trans (h.2.2 j hj hne)⟩
theorem Q1g.off {α:Type} {w w':World} {base O k:Nat} {e:TypeId} {enc:α -> List Value} {v:Value} {l:List α} (h:Q1g w base e k enc v l) (hO:O < base) (hx:Off O w w'):Q1g w' base e k enc v l:=by
 obtain ⟨h1,h2⟩:=h;refine ⟨h1,?_⟩
 rcases h2 with h2 | ⟨g,cap,cur,hv,hb,hg,r⟩
 . exact .inl h2
 . exact .inr ⟨g,cap,cur,hv,hb,by rw [hx.2.2 g (Array.getElem?_eq_some_iff.1 hg).1 (by omega)]; exact hg,r⟩
theorem Q1g.setCell {α:Type} {w:World} {base k:Nat} {e:TypeId} {enc:α -> List Value} {v:Value} {l:List α} (h:Q1g w base e k enc v l) {p:Addr} (hp:p.block < base) (u:Value):Q1g (w.setCell p u) base e k enc v l :=
 h.only hp (Q3h w p u)
theorem Q4f {w w':World} {v cv:Value} {l:List Int} {base n size:Nat} {T e:TypeId} {xs:List Value} (h:Q0m w 0 T (Value.int .i64) v l) (hown:w.ownsRow base e size cv n xs) (he:e ≠ T) (hg:w.grownBy w' cv.ownBlock):Q0m w' 0 T (Value.int .i64) v l:=by
 obtain ⟨h1,h2⟩:=h;refine ⟨h1,?_⟩
 rcases h2 with h2 | ⟨g,cap,cur,hv,hb,hgl,r⟩
 . exact .inl h2
 . refine .inr ⟨g,cap,cur,hv,hb,?_,r⟩
   rw [hg.block g (Array.getElem?_eq_some_iff.1 hgl).1 ?_]; exact hgl;intro e'
   rcases hown.2 with ⟨rfl,_⟩ | ⟨g',_,cur',rfl,_,hg',_⟩
   . cases e'
   . have e2:g=g':=by simpa [Value.ownBlock] using e'
     rw [e2,hg'] at hgl;injection hgl with hgl;injection hgl with _ h3 _;exact he h3
theorem Q6j {w w':World} {cv:Value} {base n size g:Nat} {T e:TypeId} {cs:Array Value} {xs:List Value} (h:Blk w g T cs) (hown:w.ownsRow base e size cv n xs) (hb:g < base) (hg:w.grownBy w' cv.ownBlock):Blk w' g T cs:=by
 unfold Blk at *;rw [hg.block g (Array.getElem?_eq_some_iff.1 h).1 ?_]; exact h;intro e';have:=(hown.lt g e'.symm).1;omega
theorem Q9z {w:World} {v u:Value} {l:List Int} {O k:Nat} {T S:TypeId} {cs:Array Value} (h:Q0m w 0 T (Value.int .i64) v l) (hb:Blk w O S cs) (hT:S ≠ T):Q0m (w.setCell ⟨O,k,none⟩ u) 0 T (Value.int .i64) v l:=by
 obtain ⟨h1,h2⟩:=h;refine ⟨h1,?_⟩
 rcases h2 with h2 | ⟨g,cap,cur,hv,hbb,hgl,r⟩
 . exact .inl h2
 . refine .inr ⟨g,cap,cur,hv,hbb,?_,r⟩
   rw [Below.heap_setCell _ _ _ _ ?_]; exact hgl;intro e';have e2:g=O:=e';unfold Blk at hb;rw [e2,hb] at hgl;injection hgl with hgl;injection hgl with _ h3 _;exact hT h3
theorem Q1g.rowsOf {α β:Type} {w:World} {base:Nat} {e:TypeId} {k:Nat} {enc:α -> List Value} {v:Value} {L:List α} {l:List β} {R:World -> (Nat -> Value) -> β -> Prop} (h:Q1g w base e k enc v L) (hlen:L.length=l.length) (hl:l.length <= 17592186043904)
    (hk:∀ x,(enc x).length=k) (hR:∀ j (h1:j < L.length) (h2:j < l.length),R w (fun i=>((enc L[j])[i]?).getD undef) l[j]) (hloc:∀ c c' x,(∀ i,i < k -> c i=c' i) -> R w c x -> R w c' x):Go.Tw.Rows k R w v l:=by
 refine ⟨fun j=>((L.flatMap enc)[j]?).getD undef,?_,fun j hj=>hloc _ _ _ (fun i hi=>?_) (hR j (by omega) hj)⟩
 . obtain ⟨_,h2⟩:=h
   rw [hlen] at h2
   rcases h2 with ⟨rfl,h0⟩ | ⟨g,cap,cur,rfl,_,hg,hcap,_,_,htake⟩
   . exact ⟨none,0,by rw [h0],hl,by omega,fun j hj=>by rw [h0,Nat.zero_mul] at hj; omega⟩
   . refine ⟨some ⟨g,0,none⟩,cap,rfl,hl,hcap,fun j hj=>⟨g,0,rfl,?_⟩⟩
     rw [Nat.zero_add];have h1:=congrArg (fun l=>l[j]?) htake;simp only [List.getElem?_take,hj,if_true] at h1;have hlt:j < (L.flatMap enc).length:=by rw [X2s hk,hlen]; exact hj
     rw [List.getElem?_eq_getElem hlt] at h1;simp only [World.cell?,hg,List.getElem?_eq_getElem hlt,Option.getD_some]
     simpa using h1
 . show ((enc L[j])[i]?).getD undef=((L.flatMap enc)[j * k + i]?).getD undef
   rw [flat_get hk L j i (by omega) hi]
theorem Q2u {α:Type} {P:Program} {K:Value -> World -> Prop} {o:Oper} {a:Act} {w:World} (s x:Operand) (t:TypeId) (ho:o.op=.call { callee:=.builtin .append,args:=#[s,x],argTypes:=#[t,t] })
    (base:Nat) (e:TypeId) (i:TypeInfo) (z:Value) (k bytes:Nat) (ht:P.underlying t=some (.slice e)) (hi:P.info? e=some i) (hz:i.zero=some z) (hsize:i.size=k) (hby:i.bytes=bytes) (hzs:z.cells.size=k) (hk0:0 < k)
    (enc:α -> List Value) (hk:∀ x,(enc x).length=k) (v:Value) (xs:List α) (y:α) (hs:a.eval s=v) (hown:Q1g w base e k enc v xs) (ad:Addr) (c:Nat) (hx:a.eval x=.slice (some ad) 1 c)
    (hnews:∀ j u,(enc y)[j]?=some u -> w.cell? (ad.add j)=some u) (h1:∀ u ∈ enc y,u.oneCell'=true)
    (h63:xs.length + 1 <= 100000) (hb:bytes <= 1000) (hbase:base <= w.heap.size)
    (h:∀ v' w',Q1g w' base e k enc v' (xs ++ [y]) -> w.grownBy w' v.ownBlock -> K v' w'):gives P K ((execOp a.eval o).run P w):=by
 obtain ⟨v',w',hr,h2,h3,h4⟩:=run_append_own (P:=P) w base t o.type e i z k bytes ht hi hz hsize hby hzs hk0 v xs.length (xs.flatMap enc) hown ad 1 c (enc y) (by rw [hk]; omega) hnews h1 (by unfold maxLen; omega) (by
     have:(xs.length + 1) * bytes <= 100000 * 1000:=Nat.mul_le_mul h63 hb;omega) hbase
 unfold execOp;simp only [ho,resolve,invoke,builtin,Sem.run_bind,Sem.run_pure,Result.andThen_ok,List.map_toArray,List.map_cons,List.map_nil,hs,hx,hr];exact h v' w' (Q1g.snoc h2) h3
theorem Q6e {w:World} {g:Nat} {T:TypeId} {xs:List Value} (h:Blk w g T xs.toArray):∀ j u,xs[j]?=some u -> w.cell? ((⟨g,0,none⟩:Addr).add j)=some u:=by
 intro j u hu;rw [addr_add,Nat.zero_add,h.cell]
 simpa using hu
end Go.Tw
namespace Go.Proofs
open Go.RowKit Go.Tw Go.Flow
theorem Q0g {P:Program} {K:Value -> World -> Prop} {o:Oper} {a:Act} {w:World} (p:Operand) (T:TypeId) (ho:o.op=.load T p) (hA:∀ w,(isAgg T).run P w=.ok true w) {n:Nat} (hS:∀ w,(sizeOf T).run P w=.ok n w)
    {g:Nat} (hp:a.eval p=.pointer (some ⟨g,0,none⟩)) {BT:TypeId} {cs:Array Value} (hb:Blk w g BT cs) (hn:cs.size=n) (h:K (.agg cs) w):gives P K ((execOp a.eval o).run P w):=by
 subst hn;unfold execOp;simp only [ho,hp,Instr.loadAt,Instr.sureAddr,Sem.run_bind,Sem.run_pure,Result.andThen_ok,Q4d hb hA hS];exact h
theorem Q1m {P:Program} {K:Value -> World -> Prop} {o:Oper} {a:Act} {w:World} (p x:Operand) (T:TypeId) (ho:o.op=.store T p x)
    {n:Nat} (hS:∀ w,(sizeOf T).run P w=.ok n w) {g:Nat} (hp:a.eval p=.pointer (some ⟨g,0,none⟩)) {BT:TypeId} {cs vs:Array Value} (hx:a.eval x=.agg vs) (hb:Blk w g BT cs) (hn:cs.size=n) (hv:vs.size=n) (h1:∀ u ∈ vs.toList,u.oneCell'=true)
    (h:∀ v w',Blk w' g BT vs -> (∀ n,n <= g -> Below n w w') -> (∀ k,k ≠ g -> w'.heap[k]?=w.heap[k]?) -> K v w'):gives P K ((execOp a.eval o).run P w):=by
 obtain ⟨w',hr,hb',hl,hoo⟩:=Q9n (P:=P) vs.toList 0 w cs hb h1 (by simp [hn,hv])
 have hs:(storeVar T ⟨g,0,none⟩ (.agg vs)).run P w=.ok () w':=by
  have hc:(Value.agg vs).cells=vs:=rfl;unfold storeVar;simp only [Sem.run_bind,hS,Result.andThen_ok];rw [if_neg (by rw [hc]; simp [hv])]
  exact hr
 have hr2:(execOp a.eval o).run P w=.ok .skip w':=by
  unfold execOp;simp only [ho,hp,hx,Instr.storeAt,Instr.sureAddr,Sem.run_bind,Sem.run_pure,Result.andThen_ok,hs]
 rw [hr2];exact h _ _ (by simpa using hb') hl hoo
theorem Q1s {P:Program} {w:World} {ops:Array Oper} {rest:List Oper} {o:Oper} {a:Act} {Q:Exit -> Act -> World -> Prop} (hg:o.guard=none)
    (h:gives P (fun u w'=>wpList P ops Q rest (a.put o.dst u) w') ((execOp a.eval o).run P w)):wpList P ops Q (o :: rest) a w :=
 wpList_plain hg fun K' hK'=>by
  unfold Oper.wp;exact Q2m (Q4y (fun _ _ hk=>hK' _ _ hk) h)
theorem Z4e {K:Value -> World -> Prop} {o:Oper} {a:Act} {w:World} (x:Operand) (t e:TypeId) (ho:o.op=.makeSlice t x x) (i:TypeInfo) (z:Value) (k bytes:Nat) (ht:Tryz.prog.underlying t=some (.slice e)) (hi:Tryz.prog.info? e=some i) (hz:i.zero=some z) (hs:i.size=k) (hby:i.bytes=bytes)
    (n:Nat) (hx:a.eval x=.int .i64 n) (hn:n <= 1000) (hb:bytes <= 1000)
    (h:K (.slice (some ⟨w.heap.size,0,none⟩) n n) (w.alloc (.cells (madeCells z.cells (n * k)) e))):gives Tryz.prog K ((execOp a.eval o).run Tryz.prog w):=by
 have hnb:bytes * n <= 1000 * 1000:=Nat.mul_le_mul hb hn;have hr:=run_make (P:=Tryz.prog) w t e i z ht hi hz .i64 .i64 n n (by omega) (Int.le_refl _) (by rw [hby]; have:((bytes * n:Nat):Int) <= 1000000:=(by omega); rw [Int.natCast_mul] at this; omega) (by omega)
 simp only [Int.toNat_natCast,hs] at hr;unfold execOp;simp only [ho,hx,Sem.run_bind,hr,Result.andThen_ok,Sem.run_pure];exact h
theorem X4r {P:Program} {w:World} {ops:Array Oper} {rest:List Oper} {o:Oper} {a:Act} {Q:Exit -> Act -> World -> Prop} (hg:o.guard=none) (p x:Operand) (T:TypeId) (hop:o.op=.store T p x)
    (hT:∀ w,(sizeOf T).run P w=.ok 1 w) {g k:Nat} (hp:a.eval p=.pointer (some ⟨g,k,none⟩)) {u:Value} (hx:a.eval x=u) (hu:u.cells=#[u]) (h1:u.oneCell'=true) {BT:TypeId} {cs:Array Value} (hb:Blk w g BT cs) (hk:k < cs.size)
    (hK:∀ w',Blk w' g BT (cs.setIfInBounds k u) -> (∀ n,n <= g -> Below n w w') -> (∀ k,k ≠ g -> w'.heap[k]?=w.heap[k]?) -> wpList P ops Q rest (a.put o.dst undef) w'):wpList P ops Q (o :: rest) a w:=by
 refine wpList_plain hg fun K' hK'=>?_;unfold Oper.wp;have h0:=hb.cell k;rw [Array.getElem?_eq_getElem hk] at h0;have hs:(storeVar T ⟨g,k,none⟩ u).run P w=.ok () (w.setCell ⟨g,k,none⟩ u):=by
  unfold storeVar;simp only [Sem.run_bind,hT,Result.andThen_ok,hu];rw [if_neg (by simp)]
  simp only [storeCells,Sem.run_bind,Sem.run_pure];have ea:(⟨g,k,none⟩:Addr).add 0=⟨g,k,none⟩:=by rw [addr_add,Nat.add_zero]
  rw [ea,run_store P w _ u _ h1];simp only [h0,hb.frozen k,Bool.false_eq_true,if_false,Result.andThen_ok]
 have hr2:(execOp a.eval o).run P w=.ok .skip (w.setCell ⟨g,k,none⟩ u):=by
  unfold execOp;simp only [hop,hp,hx,Instr.storeAt,Instr.sureAddr,Sem.run_bind,Sem.run_pure,Result.andThen_ok,hs]
 rw [hr2];exact hK' _ _ (hK _ (hb.set k u) (fun n hn=>(Below.refl n w).setCell (p:=⟨g,k,none⟩) hn u) (fun k' hk'=>Below.heap_setCell _ _ _ _ hk'))
end Go.Proofs
namespace Go.Proofs
open Go.RowKit Go.Tw Go.Flow
attribute [local go_sem] Oper.semAt_some
def Z4x (s:Q0b) (p:List Rul) (i:Nat):Bool:=(Q1q s i).keeps s.limit (Q0i p (Q0c s.members i))
def Q3o (s:Q0b) (p:List Rul) (k:Nat):List Int:=((List.range k).filter (Z4x s p)).map Int.ofNat
theorem X5l (s:Q0b) (p:List Rul):Q3o s p s.members.length=Q2o s p:=rfl
theorem X1y (s:Q0b) (p:List Rul) (k:Nat):Q3o s p (k + 1)=if Z4x s p k then Q3o s p k ++ [(k:Int)] else Q3o s p k:=by
 unfold Q3o;rw [List.range_succ,List.filter_append,List.map_append]
 by_cases h:Z4x s p k=true
 . rw [if_pos h]; simp [h]
 . rw [if_neg h]; simp [h]
theorem Q7t (s:Q0b) (p:List Rul) (k:Nat):(Q3o s p k).length <= k:=by
 unfold Q3o;rw [List.length_map];exact Nat.le_trans (List.length_filter_le _ _) (by simp)
theorem Q8u (w:World) (x y:Value):(Instr.field 99 (.agg #[x,y]) 1).run Tryz.prog w=.ok y w:=by kernel_rfl
attribute [local go_sem ↓] Q8u
theorem Y5k (w:World) (v u:Value) (s:Q0b) (p:List Rul) (hv:Q0f w v s) (hu:Q0j w u p) (hS:Q0u s) (hp:Q1c s.hist p=0) :
    Calls Tryz.prog 30 #[v,u] w fun e w'=>∃ x,e=.returned x /\ Q0e w' x (Q2o s p) /\ Ext w w':=by
 obtain ⟨i0,hi,hz0,hz1,hz2⟩:=info_parts Tryz.info3;have h8:=hS.some.2;have HPL:Hid (∀ (w:World) (v u:Value) (i:Nat),i < s.members.length -> Q0f w v s -> Q0j w u p -> Calls Tryz.prog 60 #[v,u,.int .i64 (i:Int)] w fun e w'=>∃ x y,e=.returned (.agg #[x,y]) /\ Q0r w' x (Q0i p (Q0c s.members i)) /\ Q0e w' y ((Q1q s i).Q3z (Q0i p (Q0c s.members i))) /\ Ext w w'):=hid (fun w v u i h h1 h2=>Y5o w v u s p i h1 h2 hS hp h);obtain ⟨a,b,rfl,h2⟩:=hv;obtain ⟨rv,rfl,hr⟩:=hu;obtain ⟨A,capa,rfl,-,-,-⟩:=h2.ships.opened;obtain ⟨B,capb,rfl,-,-,-⟩:=h2.members.opened;obtain ⟨R,capr,rfl,-,-,-⟩:=hr.opened;have H2:=hid h2;have HR:=hid hr;clear h2 hr hS hp;go_enter Tryz.func30,Tryz.ntmps30;go_wp2_with fail;change Code.wp _ _ _ _ ((w.alloc (.cells #[.int .i64 s.limit,.slice A s.ships.length capa,.slice B s.members.length capb] 25)).alloc (.cells #[.slice R p.length capr] 47));obtain ⟨W,hWW,k0,k1,HXW,eW⟩:=Q2t w 25 #[.int .i64 s.limit,.slice A s.ships.length capa,.slice B s.members.length capb] 47 #[.slice R p.length capr];rw [hWW];clear hWW;have K0:=hid k0;have K1:=hid k1;obtain ⟨gs,hgs⟩:∃ x,w.heap.size=x:=⟨_,rfl⟩;rw [hgs] at K0 K1 eW ⊢;clear k0 k1
 go_loopw [5,6] (fun o i wr=>∃ (k:Nat),k <= s.members.length /\ i=.int .i64 k /\ Q0m wr W.heap.size 3 (.int .i64) o (Q3o s p k) /\ Ext W wr) (fun _ i _=>s.members.length - (intOf i).toNat)
 case atStart=>exact ⟨0,Nat.zero_le _,rfl,Q0m.nil _ _ _ _,Ext.refl _⟩
 case round =>
  obtain ⟨k,hk,rfl,hown,hxr⟩:=hrel;have c2:=(K0.out.ext hxr).cell 2;simp only [Go.Tw.gA,Go.Tw.gB,Go.Tw.gC] at c2;have HXR:=hid hxr;have HOW:=hid hown;clear hxr hown
  by_cases hlt:k < s.members.length
  . have hkI:(k:Int) < s.members.length:=by omega
    have hsuc:=X1y s p k;have hkd:Z4x s p k=Z0v s.limit ((Q1q s k).Q3z (Q0i p (Q0c s.members k))):=rfl;have HPK:=hid (fun w v u h1 h2=>HPL.out w v u k hlt h1 h2);obtain ⟨pk,hpk⟩:∃ x,(Q1q s k).Q3z (Q0i p (Q0c s.members k))=x:=⟨_,rfl⟩;rw [hpk] at hkd HPK;obtain ⟨q,hq⟩:∃ x,Z0v s.limit pk=x:=⟨_,rfl⟩;rw [hkd,hq] at hsuc;have HQ:=hid hq;have HSUC:=hid hsuc;have hdr:=(Ext.refl wr).drew;clear hsuc hkd hpk hq
    go_light
    go_wp2;refine Flow.Q1d [.w,.w,.w,.p,.w,.p,.w] [0,1,2,3,4,5,6] [[],[],[],[],[1,2,3],[4],[0,4,5]]
     [.c 0 (.agg #[.int .i64 s.limit,.slice A s.ships.length capa,.slice B s.members.length capb]),.c 1 (.agg #[.int .i64 s.limit,.slice A s.ships.length capa,.slice B s.members.length capb]),.c 2 (.agg #[.slice R p.length capr]),.c 3 (.int .i64 (k:Int)),⟨fun v wz=>(fun v w'=>∃ x y,v 4=.agg #[x,y] /\ Q0e w' y pk) v wz,by rintro v a b hx ⟨x,y,h1,h2⟩; exact ⟨x,y,h1,h2.ext hx⟩⟩,⟨fun v wz=>(fun v w'=>Q0e w' (v 5) pk) v wz,by intro v a b hx h; exact Q0e.ext h hx⟩,.c 6 (.bool (Z0v s.limit pk))]
     (by kernel_rfl) rfl (by kernel_rfl) ⟨?g0,?g1,?g2,?g3,?g4,?g5,?g6,trivial⟩ ?post
    case g0 | g1=>
     intro v w1 hx;intro bb hbb;intro K hK;have o1:bb.eval (.tmp 2)=.pointer (some ⟨gs,0,none⟩):=by rw [hbb]; dsimp only; (try simp (discharger:=decide) only [eval_put_ne]); rfl
     exact Q0g (.tmp 2) _ rfl Tryz.Q5h Tryz.Q3p o1 (K0.out.ext (HXR.out.trans (hdr.trans hx))) rfl (hK _ _ (Ext.refl _) rfl)
    case g2=>
     intro v w1 hx;intro bb hbb;intro K hK;have o1:bb.eval (.tmp 3)=.pointer (some ⟨gs + 1,0,none⟩):=by rw [hbb]; dsimp only; (try simp (discharger:=decide) only [eval_put_ne]); rfl
     exact Q0g (.tmp 3) _ rfl Tryz.Q6w Tryz.Q4t o1 (K1.out.ext (HXR.out.trans (hdr.trans hx))) rfl (hK _ _ (Ext.refl _) rfl)
    case g3=>
     intro v w1 hx;intro bb hbb;subst hbb;refine ⟨_,fun w=>?_,rfl⟩;go_simp
    case g4=>
     intro v w1 hx;(repeat intro (zq:v _=_));intro bb hbb;subst hbb;intro K hK;go_simp;refine Q0d (HPK.out w1 _ _ ⟨_,_,rfl,H2.out.ext (HXW.out.trans (HXR.out.trans (hdr.trans hx)))⟩ ⟨_,rfl,HR.out.ext (HXW.out.trans (HXR.out.trans (hdr.trans hx)))⟩) ?_;rintro e w2 ⟨x,y,rfl,h1,h2,hx2⟩;exact ⟨_,rfl,hK _ _ hx2 ⟨x,y,rfl,h2⟩⟩
    case g5=>
     intro v w1 hx (q4:(fun v w'=>∃ x y,v 4=.agg #[x,y] /\ Q0e w' y pk) v w1);intro bb hbb;obtain ⟨x,y,e4,h4⟩:=q4;have o1:bb.eval (.tmp 18)=.agg #[x,y]:=by rw [hbb]; dsimp only; (try simp (discharger:=decide) only [eval_put_ne]); rw [Q0a (by simp only [size_put]; exact (by decide:18 < 26))]; exact e4
     refine ⟨y,fun w=>?_,h4⟩;go_simp
    case g6=>
     intro v w1 hx (q0:v 0=_) _ (q5:(fun v w'=>Q0e w' (v 5) pk) v w1);intro bb hbb;subst hbb;intro K hK;go_simp;refine Q0d (Y4w w1 _ _ s pk ⟨_,_,rfl,H2.out.ext (HXW.out.trans (HXR.out.trans (hdr.trans hx)))⟩ q5) ?_;rintro e w2 ⟨rfl,hx2⟩;exact ⟨_,rfl,hK _ _ hx2 rfl⟩
    case post =>
     intro v w1 hx;(iterate 4 intro (zq:v _=_));intro (q4:(fun v w'=>∃ x y,v 4=.agg #[x,y] /\ Q0e w' y pk) v w1) (q5:(fun v w'=>Q0e w' (v 5) pk) v w1);(iterate 1 intro (zq:v _=_));simp only [Flow.All,Flow.acts,Act.put];go_simp;have hxx:=HXR.out.trans (hdr.trans hx);have hown:=HOW.out.below (hdr.trans hx);rw [HQ.out];have HXX:=hid hxx;clear hx hdr q4 q5;(repeat clear zq);obtain ⟨w3,rfl⟩:∃ X,X=w1:=⟨_,rfl⟩;cases q with
     | true =>
       have HST:Hid (Q3o s p (k + 1)=Q3o s p k ++ [(k:Int)]):=hid (by rw [HSUC.out,if_pos (by trivial)])
       have hll:(Q3o s p k).length <= 4096:=by have:=Q7t s p k; omega
       have HOW3:=hid hown;have hx3:=HXX.out;clear hxx;go_wp2_with (at_builtin; refine wpList_append_own _ rfl _ _ 22 rfl (W.heap.size) 3 i0 (.int .i64 0) 1 8 Tryz.underlying22 hi hz0 hz1 hz2 rfl (by decide) _ _ _ rfl (World.ownsRow.alloc hown _) ⟨w3.heap.size,0,none⟩ 1 1 [.int .i64 (k:Int)] rfl rfl ?_ ?_ ?_ ?_ ?_ ?_; exact Q3i _ _ _; (focus (simp [Value.oneCell'])); (focus (unfold maxLen; omega)); (focus omega); (focus (have:=hx3.size; simp at this ⊢; omega)); intro v' w1 hown' hgrow _)
       have hx':=Q2e hx3 HOW3.out (Nat.le_refl _) hgrow;go_roundw
       case rel=>exact ⟨k + 1,by omega,by go_num,by rw [HST.out]; exact Q0m.snoc hown',hx'⟩
       case measure=>simp [intOf]; omega
     | false =>
       have HST:Hid (Q3o s p (k + 1)=Q3o s p k):=hid (by rw [HSUC.out]; simp)
       have HOW3:=hid hown;clear hown hxx;go_wp2;go_roundw
       case rel=>exact ⟨k + 1,by omega,by go_num,by rw [HST.out]; exact HOW3.out,HXX.out⟩
       case measure=>simp [intOf]; omega
  . have hkI:¬ (k:Int) < s.members.length:=by omega
    have hke:k=s.members.length:=by omega
    subst hke;go_wp2;go_ret;exact ⟨_,rfl,by rw [<- X5l]; exact HOW.out.ints (by have:=Q7t s p s.members.length; omega),HXW.out.trans HXR.out⟩
end Go.Proofs
