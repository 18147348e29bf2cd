/- Contract of the reference: Histories. Contract of the reference: Alone. Contracts: Weight of the program; what is needed of it. A part of a function's body inside its loops: a great walk is cut into theorems there, for any exits. -/
import Derived.Test.YthnobngcipaljaaGreatDoorPp35
import Derived.Test.YthnobngcipaljaaGreatDoorPz01
set_option maxRecDepth 1000000
set_option maxHeartbeats 64000000
set_option linter.unusedVariables false
set_option linter.unusedSimpArgs false
set_option linter.constructorNameAsVariable false
open Go.Lib (hid)
namespace Go.Proofs
open Go.RowKit Go.Tw Go.Flow
attribute [local go_sem] Oper.semAt_some
theorem J3a (w:World) (v:Value) (s:Q0b) (hv:Q0h w v s) (he:s.err=0) :
    Calls Tryz.prog 44 #[v] w fun e w'=>∃ x,e=.returned x /\ LL w' w.heap.size x s.hist /\ Ext w w':=by
 obtain ⟨i0,hi,hz0,hz1,hz2⟩:=info_parts Tryz.info22;obtain ⟨n0,ni,nz0,nz1,nz2⟩:=info_parts Tryz.info3;have hS:=Q1b.of he;have hfix:Hid (∀ i,i < s.members.length -> (Q0c s.members i).length=s.ships.length):=fun i h=>(hS.shaped i h).1;have hT6:=hS.tides.2;have hn8:=hS.some.2;obtain ⟨a,b,rfl,h2⟩:=hv;obtain ⟨A0,capa,rfl,-,-,-⟩:=h2.ships.opened;obtain ⟨B,capb,rfl,-,-,hc⟩:=h2.members.opened;have HC:=hid hc;obtain ⟨n,hn⟩:∃ n,s.members.length=n:=⟨_,rfl⟩;obtain ⟨T,hT⟩:∃ n,s.ships.length=n:=⟨_,rfl⟩;have HN:=hid hn;have HT:=hid hT;rw [hn] at HC hn8 hfix;rw [hT] at hT6 hfix;rw [hn,hT];clear h2 hc hS he hn hT;go_enter Tryz.func44,Tryz.ntmps44;go_wp2_with fail;change Code.wp _ _ _ _ (w.alloc (.cells #[.int .i64 s.limit,.slice A0 T capa,.slice B n capb] 25));obtain ⟨W,hWW,k0,HXW,eW⟩:=Q1t w 25 #[.int .i64 s.limit,.slice A0 T capa,.slice B n capb];rw [hWW];clear hWW;obtain ⟨gs,hgs⟩:∃ x,w.heap.size=x:=⟨_,rfl⟩;rw [hgs] at k0 eW ⊢;have K0:=hid k0;have HW:=HXW;have hgW:gs < W.heap.size:=k0.lt;clear k0 hgs
 go_loopw [3,4] (fun o t wr=>∃ (k:Nat),k <= T /\ t=.int .i64 k /\ LL wr W.heap.size o (s.Q7i k) /\ Ext W wr) (fun _ t _=>T - (intOf t).toNat)
 case atStart=>exact ⟨0,Nat.zero_le _,rfl,LL.nil _ _,Ext.refl _⟩
 case round =>
  obtain ⟨k,hk,rfl,hout,hxk⟩:=hrel;obtain ⟨w1,rfl⟩:∃ x,x=wr:=⟨_,rfl⟩;have c0:=(K0.out.ext hxk).cell 0;have c1:=(K0.out.ext hxk).cell 1;have c2:=(K0.out.ext hxk).cell 2;simp only [Go.Tw.gA,Go.Tw.gB,Go.Tw.gC] at c0 c1 c2;have HXK:=hid hxk;have HO:=hid hout;clear hxk hout
  by_cases hlt:k < T
  . have hkI:(k:Int) < T:=by omega
    go_light
    go_wp2_with fail
    go_loopw [5,6] (fun r i wr=>∃ (m:Nat),m <= n /\ i=.int .i64 m /\ LL wr W.heap.size r (s.X0s k m) /\ Ext w1 wr) (fun _ i _=>n - (intOf i).toNat)
    case atStart=>exact ⟨0,Nat.zero_le _,rfl,LL.nil _ _,Ext.refl _⟩
    case round =>
     obtain ⟨m,hm,rfl,hrow,hx2⟩:=hrel;obtain ⟨w2,rfl⟩:∃ x,x=wr:=⟨_,rfl⟩;have hxW2:=HXK.out.trans hx2;have d0:=(K0.out.ext hxW2).cell 0;have d1:=(K0.out.ext hxW2).cell 1;have d2:=(K0.out.ext hxW2).cell 2;simp only [Go.Tw.gA,Go.Tw.gB,Go.Tw.gC] at d0 d1 d2;have HX2:=hid hx2;have HXW2:=hid hxW2;have HR:=hid hrow;clear hx2 hrow
     by_cases hml:m < n
     . have hmI:(m:Int) < n:=by omega
       obtain ⟨bm,off,x0,y0,z0,hBe,hbm,-,-,e2,-,-,hix,-,-,-⟩:=HC.out m hml;subst hBe;obtain ⟨C,capc,rfl,-,hcapc,hcC⟩:=hix.opened;have hfl:=hfix.out m hml;obtain ⟨lc,hlc⟩:∃ x,Q0c s.members m=x:=⟨_,rfl⟩;rw [hlc] at hfl hcapc hcC e2 hix;rw [hfl] at e2 hcapc;obtain ⟨bc,oc,hCe,_⟩:=hcC 0 (by omega)
       subst hCe;have hkc:k + 1 <= capc:=by omega
       have hkc1:¬ ((0:Int) <= (k:Int) + 1 -> (capc:Int) < (k:Int) + 1):=by omega
       have hkc2:¬ capc=0:=by omega
       have hkc4:¬ (k:Int) + 1 < 0:=by omega
       have hkc3:((k:Int) + 1).toNat=k + 1:=by omega
       have hkc5:(k:Int) + 1 <= (capc:Int):=by omega
       have hwk:IntKind.i64.wrap ((k:Int) + 1)=(k:Int) + 1:=Q2v _ (by omega) (by omega)
       have hxb:=Ext.box w2 (.cells #[] 3);have hown:Q0q (w2.alloc (.cells #[] 3)) w2.heap.size 3 (Value.int .i64) (.slice (some ⟨w2.heap.size,0,none⟩) 0 0) []:=World.ownsRow_made w2 #[] 0 (Nat.le_refl _) (by unfold maxLen; omega) rfl
       have e2':=hxb.cell (HXW2.out.cell (HW.out.cell e2));have d2':=hxb.cell d2;have lt1:(lc.take (k + 1)).length=k + 1:=by rw [List.length_take]; omega
       have hixw:=(X6b (by rw [hfl] at hix; exact hix) (show k + 1 <= lc.length by omega)).ext ((HW.out.trans HXW2.out).trans hxb)
       have HSRC:Hid (∀ j u,((lc.take (k + 1)).map (Value.int .i64))[j]?=some u -> (w2.alloc (.cells #[] 3)).cell? ((⟨bc,oc,none⟩:Addr).add j)=some u):=J7j hixw lt1;have HONE1:Hid (∀ u ∈ (lc.take (k + 1)).map (Value.int .i64),u.oneCell'=true):=by
        exact (by intro u hu; obtain ⟨y,_,rfl⟩:=List.mem_map.1 hu; rfl:∀ u ∈ (lc.take (k + 1)).map (Value.int .i64),u.oneCell'=true)
       have HL2:Hid (((lc.take (k + 1)).map (Value.int .i64)).length=(k + 1) * 1):=hid (by rw [List.length_map,lt1]; omega)
       have hdc:(w2.alloc (.cells #[] 3)).cell? ⟨bm,off + m * 5 + 2,none⟩=some (.slice (some ⟨bc,oc,none⟩) T capc):=e2';have HLC:=hid lt1;have HHC:=hid hlc;clear hcC hix hixw e2 e2' lt1 hlc hxb
       go_light
       go_wp2_with (at_builtin; refine wpList_append_own _ rfl _ _ 22 rfl (w2.heap.size) 3 n0 (.int .i64 0) 1 8 Tryz.underlying22 ni nz0 nz1 nz2 rfl (by decide) _ _ _ rfl hown ⟨bc,oc,none⟩ (k + 1) capc ((lc.take (k + 1)).map (Value.int .i64)) rfl HL2.out HSRC.out HONE1.out ?_ ?_ ?_ ?_; (focus (unfold maxLen; simp; omega)); (focus (simp; omega)); (focus (simp)); intro v' w4 hown' hgrow _; refine halted ?_)
       have hx4:Ext w2 w4:=Below.trans (Ext.box w2 (.cells #[] 3)) (below_grown hown hgrow (Nat.le_refl _) (Ext.box w2 (.cells #[] 3)).size);have hownh:Q0q w4 0 3 (.int .i64) v' (lc.take (k + 1)):=by
        refine Q0q.weaken ?_ (Nat.zero_le w2.heap.size);simp only [List.length_nil,Nat.zero_add,List.map_nil,List.nil_append] at hown';unfold Q0q;rw [HLC.out];exact hown'
       clear hown' hgrow hown hdc d2';unfold Q1i;obtain ⟨Ah,ch,rfl,hch⟩:=hownh.shape;rw [HLC.out] at hownh hch ⊢;have hst:s.X0s k (m + 1)=Q9j (lc.take (k + 1)) (s.X0s k m):=by rw [<- HHC.out]; rfl
       have hlens:∀ j,j < (s.X0s k m).length -> ((s.X0s k m).getD j []).length=k + 1:=J7m (by rw [HN.out]; omega) (fun i h=>by rw [HN.out] at h; rw [hfix.out i h]; omega)
       have hrl:=Y1k s k m;obtain ⟨us,hou,hru⟩:=HR.out.ext hx4;have hul:us.length <= 8:=by rw [hru.1]; omega
       have HHH:=hid hownh;obtain ⟨hh,hhe⟩:∃ x,lc.take (k + 1)=x:=⟨_,rfl⟩;have hhl:hh.length=k + 1:=by rw [<- hhe]; exact HLC.out
       rw [hhe] at hst HHH;obtain ⟨rt,hrt⟩:∃ x,s.X0s k m=x:=⟨_,rfl⟩;rw [hrt] at hst hlens hru hrl;have HST:=hid hst;have HLENS:=hid hlens;have HRL:=hid hru;have HHL:=hid hhl;have HONE:Hid (∀ y ∈ us,(idV y).oneCell'=true):=hru.one;have HLU:Hid (us.length=rt.length):=hid hru.1;have hxo:=HX2.out.trans hx4;have HXO:=hid hxo;have hB4:W.heap.size <= w4.heap.size:=Nat.le_trans HXW2.out.size hx4.size;have HX4:=hid hx4;clear hst hlens hru hhl hhe hrt hownh HLC HHC HSRC HONE1 HL2 hxo hx4 HR;have HOU:=hid hou
       rcases hou.cells2 with ⟨rfl,hve⟩ | ⟨g0,cc,rfl,hcc,hbg,hgl,hcl⟩
       . have HVE:=hid hve
         clear hve hou;go_wp2
         go_loopw [8] (fun a wr=>∃ (n1:Nat),n1 <= us.length /\ a=.int .i64 n1 /\ Q2x hh rt n1=Q2x hh rt rt.length /\ Ext w4 wr) (fun a _=>(intOf a).toNat)
         case atStart=>exact ⟨us.length,Nat.le_refl _,by rw [HVE.out]; rfl,by rw [HRL.out.1],Ext.refl _⟩
         case round =>
          obtain ⟨n1,hnl,rfl,hpos,hxi⟩:=hrel;have HPOS:=hid hpos; clear hpos;have hz:n1=0:=by
           have:=HVE.out;rw [this] at hnl
           simpa using hnl
          have HZ:Hid (0=Q2x hh rt rt.length):=by rw [<- HPOS.out,hz]; exact rfl
          subst hz;obtain ⟨wq,rfl⟩:∃ x,x=wr:=⟨_,rfl⟩;go_wp2;refine Flow.region [.w,.p,.p,.p,.w,.p,.w,.last,.p,.p,.p,.last,.last] [0,1,2,3,4,5,6,7,8,9,10,11,12] [[],[],[],[1,2],[0,1,2,3],[],[5],[0,1,2,3,4,5,6],[],[],[8,9],[0,1,2,3,4,5,6,7,8,9,10],[0,1,2,3,4,5,6,7,8,9,10,11]] [7,11,12]
           [⟨fun v wz=>X0u wz (v 0) wq.heap.size 22,fun _ _ _ hx h=>h.ext hx⟩,.c 1 (.slice (none) 0 0),.c 2 (.int .i64 0),.c 3 (.slice none 0 0),⟨fun v wz=>(fun v w'=>Q0q w' wq.heap.size 22 idV (v 4) (us.take 0)) v wz,fun _ _ _ hx h=>Q0q.below h hx⟩,.c 5 ((Value.slice Ah (k + 1) ch)),⟨fun v wz=>Q6p wz (v 6) (Value.slice Ah (k + 1) ch),fun _ _ _ hx h=>h.ext hx⟩,.none,.c 8 (.slice (none) 0 0),.c 9 (.int .i64 0),.c 10 (.slice none 0 0),.none,.none]
           [fun v w1 w'=>Q0q w' wq.heap.size 22 idV (v 7) (us.take 0 ++ [(Value.slice Ah (k + 1) ch)]) /\ Below wq.heap.size w1 w',fun v w1 w'=>Q0q w' wq.heap.size 22 idV (v 11) (us.take 0 ++ [(Value.slice Ah (k + 1) ch)] ++ us.drop 0) /\ Below wq.heap.size w1 w',fun v w1 w'=>v 12=v 11 /\ Q0q w' wq.heap.size 22 idV (v 11) (us.take 0 ++ [(Value.slice Ah (k + 1) ch)] ++ us.drop 0) /\ Below wq.heap.size w1 w'] (by kernel_rfl) rfl (by kernel_rfl) ⟨?g0,?g1,?g2,?g3,?g4,?g5,?g6,?g7,?g8,?g9,?g10,?g11,?g12,trivial⟩ ?post
          case g0=>
           intro v w1 hx;intro K hK;go_simp;exact hK _ _ (Ext.box _ _) (X0u.made _ _ _ hx.size)
          case g1 | g2 | g5 | g8 | g9=>
           intro v w1 hx;refine ⟨_,fun w=>?_,rfl⟩;go_simp
          case g3 | g10=>
           intro v w1 hx;(repeat intro (zq:v _=_));refine ⟨_,fun w=>?_,rfl⟩;go_simp
          case g4=>
           intro v w1 hx (q0:X0u w1 (v 0) wq.heap.size 22) (q1:v 1=_) (q2:v 2=_) (q3:v 3=_);intro K hK;have l1:(us.take 0).length=0:=by rw [List.length_take]; omega
           refine J2n _ _ 72 rfl wq.heap.size 22 i0 (.slice none 0 0) 24 Tryz.underlying72 hi hz0 hz1 hz2 rfl idV (v 0) (v 3) (us.take 0) (by go_simp) q0 (by go_simp) ?_ (fun y hy=>HONE.out y (List.mem_of_mem_take hy)) (by omega) (by decide) hx.size (fun v' w' hown hx2=>hK _ _ hx2 hown)
           rw [q3];exact ⟨none,0,by rw [l1],fun j hj=>by rw [l1] at hj; omega⟩
          case g6=>
           intro v w1 hx;(repeat intro (zq:v _=_));intro K hK;go_simp;exact hK _ _ (Ext.box _ _) (Q6p.made _ _ _)
          case g7=>
           intro v w1 hx _ (q1:v 1=_) (q2:v 2=_) (q3:v 3=_) (q4:(fun v w'=>Q0q w' wq.heap.size 22 idV (v 4) (us.take 0)) v w1) (q5:v 5=_) (q6:Q6p w1 (v 6) (Value.slice Ah (k + 1) ch));intro wl hT;obtain rfl:wl=w1:=hT;intro bb hbb;subst hbb;intro K hK;refine Q5d _ _ 72 rfl wq.heap.size 22 i0 (.slice none 0 0) 24 Tryz.underlying72 hi hz0 hz1 hz2 rfl idV (v 4) (v 6) (us.take 0) [(Value.slice Ah (k + 1) ch)] (by go_simp) q4 (by go_simp) (Q6p.src q6) (fun y hy=>by rw [List.mem_singleton] at hy; rw [hy]; exact (show (idV (Value.slice Ah (k + 1) ch)).oneCell'=true from rfl)) (by rw [List.length_take,List.length_singleton]; omega) (by decide) hx.size (fun v' w' hown hg=>hK _ _ ⟨hown,below_grown q4 hg (Nat.le_refl _) hx.size⟩)
          case g11=>
           intro v w1 hx _ (q1:v 1=_) (q2:v 2=_) (q3:v 3=_) _ (q5:v 5=_) _ (q8:v 8=_) (q9:v 9=_) (q10:v 10=_);intro wl hT;replace hT:(fun v w1 w'=>Q0q w' wq.heap.size 22 idV (v 7) (us.take 0 ++ [(Value.slice Ah (k + 1) ch)]) /\ Below wq.heap.size w1 w') v w1 wl:=hT;intro bb hbb;subst hbb;obtain ⟨hT1,hT2⟩:=hT;intro K hK;have hsz:wq.heap.size <= wl.heap.size:=Nat.le_trans hx.size hT2.size;have l2:(us.drop 0).length=us.length - 0:=List.length_drop;refine Q5d _ _ 72 rfl wq.heap.size 22 i0 (.slice none 0 0) 24 Tryz.underlying72 hi hz0 hz1 hz2 rfl idV (v 7) (v 10) (us.take 0 ++ [(Value.slice Ah (k + 1) ch)]) (us.drop 0) (by go_simp) hT1 (by go_simp) ?_ (fun y hy=>HONE.out y (List.mem_of_mem_drop hy)) (by rw [List.length_append,List.length_take,List.length_singleton]; omega) (by decide) hsz (fun v' w' hown hg=>hK _ _ ⟨hown,hT2.trans (below_grown hT1 hg (Nat.le_refl _) hsz)⟩)
           rw [q10];exact ⟨none,0,by rw [l2,HVE.out]; rfl,fun j hj=>by rw [l2,HVE.out] at hj; simp at hj⟩
          case g12=>
           intro v w1 hx _ (q1:v 1=_) (q2:v 2=_) (q3:v 3=_) _ (q5:v 5=_) _ (q8:v 8=_) (q9:v 9=_) (q10:v 10=_);intro wl hT;replace hT:(fun v w1 w'=>Q0q w' wq.heap.size 22 idV (v 11) (us.take 0 ++ [(Value.slice Ah (k + 1) ch)] ++ us.drop 0) /\ Below wq.heap.size w1 w') v w1 wl:=hT;intro bb hbb;subst hbb;intro K hK;go_simp;exact hK _ _ ⟨rfl,hT⟩
          case post =>
           intro v w1 hx (q0:X0u w1 (v 0) wq.heap.size 22);(iterate 3 intro (zq:v _=_));intro (q4:(fun v w'=>Q0q w' wq.heap.size 22 idV (v 4) (us.take 0)) v w1);(iterate 1 intro (zq:v _=_));intro (q6:Q6p w1 (v 6) (Value.slice Ah (k + 1) ch));(iterate 3 intro (zq:v _=_));intro w2 hE;replace hE:(fun v w1 w'=>v 12=v 11 /\ Q0q w' wq.heap.size 22 idV (v 11) (us.take 0 ++ [(Value.slice Ah (k + 1) ch)] ++ us.drop 0) /\ Below wq.heap.size w1 w') v w1 w2:=hE;simp only [Flow.acts,Act.put];go_simp;obtain ⟨_,e2,e3⟩:=hE;have hx9:=J5a hx e3;have hrl9:=RL.insert (HRL.out.ext (hxi.trans hx9)) (HHH.out.below (hxi.trans hx9)) (Nat.zero_le rt.length);have hown9:=e2.weaken (show W.heap.size <= wq.heap.size from Nat.le_trans hB4 hxi.size)
           have HST9:Hid (s.X0s k (m + 1)=rt.take 0 ++ [hh] ++ rt.drop 0):=HST.out.trans (J6o HZ.out (.inl rfl));have HR9:Hid (RL _ _ _):=hrl9;have hxz:=(HXO.out.trans hxi).trans hx9;clear hrl9 q0 q4 q6 hx e3 hx9;go_wp2
           all_goals
            go_roundw
            case rel=>exact ⟨m + 1,by omega,by go_num,⟨_,hown9,by rw [HST9.out]; exact HR9.out⟩,hxz⟩
            case measure=>simp [intOf]; omega
       . have HCL:=hid hcl
         clear hou hcl;go_wp2
         go_loopw [8] (fun a wr=>∃ (n1:Nat),n1 <= us.length /\ a=.int .i64 n1 /\ Q2x hh rt n1=Q2x hh rt rt.length /\ Ext w4 wr) (fun a _=>(intOf a).toNat)
         case atStart=>exact ⟨us.length,Nat.le_refl _,rfl,by rw [HRL.out.1],Ext.refl _⟩
         case round =>
          obtain ⟨n1,hnl,rfl,hpos,hxi⟩:=hrel;have HPOS:=hid hpos; clear hpos;obtain ⟨wq0,rfl⟩:∃ x,x=wr:=⟨_,rfl⟩
          by_cases hz:n1=0
          . have HZ:Hid (n1=Q2x hh rt rt.length):=by rw [<- HPOS.out,hz]; exact rfl
            have HZ0:Hid (n1=0 ∨ rt.getD (n1 - 1) [] ≠ hh):=.inl hz;have nz1:¬ (0:Int) < (n1:Int):=by omega
            have nz2:¬ cc < n1:=by omega
            clear hz;obtain ⟨wq,rfl⟩:∃ x,x=wq0:=⟨_,rfl⟩;go_wp2;refine Flow.region [.w,.p,.p,.p,.w,.p,.w,.last,.p,.p,.p,.last,.last] [0,1,2,3,4,5,6,7,8,9,10,11,12] [[],[],[],[1,2],[0,1,2,3],[],[5],[0,1,2,3,4,5,6],[],[],[8,9],[0,1,2,3,4,5,6,7,8,9,10],[0,1,2,3,4,5,6,7,8,9,10,11]] [7,11,12]
             [⟨fun v wz=>X0u wz (v 0) wq.heap.size 22,fun _ _ _ hx h=>h.ext hx⟩,.c 1 (.slice (some ⟨g0,0,none⟩) us.length cc),.c 2 (.int .i64 n1),.c 3 (.slice (some ⟨g0,0,none⟩) n1 cc),⟨fun v wz=>(fun v w'=>Q0q w' wq.heap.size 22 idV (v 4) (us.take n1)) v wz,fun _ _ _ hx h=>Q0q.below h hx⟩,.c 5 ((Value.slice Ah (k + 1) ch)),⟨fun v wz=>Q6p wz (v 6) (Value.slice Ah (k + 1) ch),fun _ _ _ hx h=>h.ext hx⟩,.none,.c 8 (.slice (some ⟨g0,0,none⟩) us.length cc),.c 9 (.int .i64 n1),.c 10 (.slice (if cc=n1 then some ⟨g0,0,none⟩ else some ⟨g0,0 + n1,none⟩) (us.length - n1) (cc - n1)),.none,.none]
             [fun v w1 w'=>Q0q w' wq.heap.size 22 idV (v 7) (us.take n1 ++ [(Value.slice Ah (k + 1) ch)]) /\ Below wq.heap.size w1 w',fun v w1 w'=>Q0q w' wq.heap.size 22 idV (v 11) (us.take n1 ++ [(Value.slice Ah (k + 1) ch)] ++ us.drop n1) /\ Below wq.heap.size w1 w',fun v w1 w'=>v 12=v 11 /\ Q0q w' wq.heap.size 22 idV (v 11) (us.take n1 ++ [(Value.slice Ah (k + 1) ch)] ++ us.drop n1) /\ Below wq.heap.size w1 w'] (by kernel_rfl) rfl (by kernel_rfl) ⟨?g0,?g1,?g2,?g3,?g4,?g5,?g6,?g7,?g8,?g9,?g10,?g11,?g12,trivial⟩ ?post
            case g0=>
             intro v w1 hx;intro K hK;go_simp;exact hK _ _ (Ext.box _ _) (X0u.made _ _ _ hx.size)
            case g1 | g2 | g5 | g8 | g9=>
             intro v w1 hx;refine ⟨_,fun w=>?_,rfl⟩;go_simp
            case g3 | g10=>
             intro v w1 hx;(repeat intro (zq:v _=_));refine ⟨_,fun w=>?_,rfl⟩;go_simp
            case g4=>
             intro v w1 hx (q0:X0u w1 (v 0) wq.heap.size 22) (q1:v 1=_) (q2:v 2=_) (q3:v 3=_);intro K hK;have l1:(us.take n1).length=n1:=by rw [List.length_take]; omega
             refine J2n _ _ 72 rfl wq.heap.size 22 i0 (.slice none 0 0) 24 Tryz.underlying72 hi hz0 hz1 hz2 rfl idV (v 0) (v 3) (us.take n1) (by go_simp) q0 (by go_simp) ?_ (fun y hy=>HONE.out y (List.mem_of_mem_take hy)) (by omega) (by decide) hx.size (fun v' w' hown hx2=>hK _ _ hx2 hown)
             rw [q3];exact ⟨_,_,by rw [l1],fun j hj=>⟨g0,0,rfl,by rw [List.getElem_take]; exact hx.cell (hxi.cell (HCL.out j (by omega)))⟩⟩
            case g6=>
             intro v w1 hx;(repeat intro (zq:v _=_));intro K hK;go_simp;exact hK _ _ (Ext.box _ _) (Q6p.made _ _ _)
            case g7=>
             intro v w1 hx _ (q1:v 1=_) (q2:v 2=_) (q3:v 3=_) (q4:(fun v w'=>Q0q w' wq.heap.size 22 idV (v 4) (us.take n1)) v w1) (q5:v 5=_) (q6:Q6p w1 (v 6) (Value.slice Ah (k + 1) ch));intro wl hT;obtain rfl:wl=w1:=hT;intro bb hbb;subst hbb;intro K hK;refine Q5d _ _ 72 rfl wq.heap.size 22 i0 (.slice none 0 0) 24 Tryz.underlying72 hi hz0 hz1 hz2 rfl idV (v 4) (v 6) (us.take n1) [(Value.slice Ah (k + 1) ch)] (by go_simp) q4 (by go_simp) (Q6p.src q6) (fun y hy=>by rw [List.mem_singleton] at hy; rw [hy]; exact (show (idV (Value.slice Ah (k + 1) ch)).oneCell'=true from rfl)) (by rw [List.length_take,List.length_singleton]; omega) (by decide) hx.size (fun v' w' hown hg=>hK _ _ ⟨hown,below_grown q4 hg (Nat.le_refl _) hx.size⟩)
            case g11=>
             intro v w1 hx _ (q1:v 1=_) (q2:v 2=_) (q3:v 3=_) _ (q5:v 5=_) _ (q8:v 8=_) (q9:v 9=_) (q10:v 10=_);intro wl hT;replace hT:(fun v w1 w'=>Q0q w' wq.heap.size 22 idV (v 7) (us.take n1 ++ [(Value.slice Ah (k + 1) ch)]) /\ Below wq.heap.size w1 w') v w1 wl:=hT;intro bb hbb;subst hbb;obtain ⟨hT1,hT2⟩:=hT;intro K hK;have hsz:wq.heap.size <= wl.heap.size:=Nat.le_trans hx.size hT2.size;have l2:(us.drop n1).length=us.length - n1:=List.length_drop;have hc2:Hid (∀ j (hj:j < us.length),wl.cell? ⟨g0,0 + j,none⟩=some (idV us[j])):=fun j hj=>(hT2.cell (p:=⟨g0,0 + j,none⟩) (Nat.lt_of_lt_of_le hgl hxi.size)).trans (hx.cell (hxi.cell (HCL.out j hj)));refine Q5d _ _ 72 rfl wq.heap.size 22 i0 (.slice none 0 0) 24 Tryz.underlying72 hi hz0 hz1 hz2 rfl idV (v 7) (v 10) (us.take n1 ++ [(Value.slice Ah (k + 1) ch)]) (us.drop n1) (by go_simp) hT1 (by go_simp) ?_ (fun y hy=>HONE.out y (List.mem_of_mem_drop hy)) (by rw [List.length_append,List.length_take,List.length_singleton]; omega) (by decide) hsz (fun v' w' hown hg=>hK _ _ ⟨hown,hT2.trans (below_grown hT1 hg (Nat.le_refl _) hsz)⟩)
             rw [q10];exact ⟨_,_,by rw [l2],fun j hj=>⟨g0,0 + n1,by rw [if_neg (by omega)],by rw [List.getElem_drop,Nat.add_assoc]; exact hc2.out (n1 + j) (by omega)⟩⟩
            case g12=>
             intro v w1 hx _ (q1:v 1=_) (q2:v 2=_) (q3:v 3=_) _ (q5:v 5=_) _ (q8:v 8=_) (q9:v 9=_) (q10:v 10=_);intro wl hT;replace hT:(fun v w1 w'=>Q0q w' wq.heap.size 22 idV (v 11) (us.take n1 ++ [(Value.slice Ah (k + 1) ch)] ++ us.drop n1) /\ Below wq.heap.size w1 w') v w1 wl:=hT;intro bb hbb;subst hbb;intro K hK;go_simp;exact hK _ _ ⟨rfl,hT⟩
            case post =>
             intro v w1 hx (q0:X0u w1 (v 0) wq.heap.size 22);(iterate 3 intro (zq:v _=_));intro (q4:(fun v w'=>Q0q w' wq.heap.size 22 idV (v 4) (us.take n1)) v w1);(iterate 1 intro (zq:v _=_));intro (q6:Q6p w1 (v 6) (Value.slice Ah (k + 1) ch));(iterate 3 intro (zq:v _=_));intro w2 hE;replace hE:(fun v w1 w'=>v 12=v 11 /\ Q0q w' wq.heap.size 22 idV (v 11) (us.take n1 ++ [(Value.slice Ah (k + 1) ch)] ++ us.drop n1) /\ Below wq.heap.size w1 w') v w1 w2:=hE;simp only [Flow.acts,Act.put];go_simp;obtain ⟨_,e2,e3⟩:=hE;have hx9:=J5a hx e3;have hrl9:=RL.insert (HRL.out.ext (hxi.trans hx9)) (HHH.out.below (hxi.trans hx9)) (show n1 <= rt.length by have:=HLU.out; omega)
             have hown9:=e2.weaken (show W.heap.size <= wq.heap.size from Nat.le_trans hB4 hxi.size)
             have HST9:Hid (s.X0s k (m + 1)=rt.take n1 ++ [hh] ++ rt.drop n1):=HST.out.trans (J6o HZ.out HZ0.out);have HR9:Hid (RL _ _ _):=hrl9;have hxz:=(HXO.out.trans hxi).trans hx9;clear hrl9 q0 q4 q6 hx e3 hx9;go_wp2
             all_goals
              go_roundw
              case rel=>exact ⟨m + 1,by omega,by go_num,⟨_,hown9,by rw [HST9.out]; exact HR9.out⟩,hxz⟩
              case measure=>simp [intOf]; omega
          . have i1:(0:Int) < (n1:Int):=by omega
            have i2:(0:Int) <= (n1:Int) - 1:=by omega
            have i3:(n1:Int) - 1 < (us.length:Int):=by omega
            have i4:((n1:Int) - 1).toNat=n1 - 1:=by omega
            have nz2:¬ cc < n1:=by omega
            have hcell:=hxi.cell (HCL.out (n1 - 1) (by omega))
            rw [Nat.zero_add] at hcell;have hin:=(HRL.out.ext hxi).2 (n1 - 1) (by have:=HLU.out; omega)
            rw [Q0v _ (show n1 - 1 < us.length by omega)] at hin
            have hl1:=HLENS.out (n1 - 1) (by have:=HLU.out; omega)
            have hps:Q2x hh rt n1=if Q1s hh (rt.getD (n1 - 1) []) then Q2x hh rt (n1 - 1) else n1:=by
             obtain ⟨m,rfl⟩:∃ m,n1=m + 1:=⟨n1 - 1,by omega⟩
             rfl
            obtain ⟨ml,hml⟩:∃ ml,rt.getD (n1 - 1) []=ml:=⟨_,rfl⟩;have HML:=hid hml;rw [hml] at hin hps hl1;have hbe:Q1s hh ml=Q5y hh ml:=by unfold Q1s; rw [if_pos (HHL.out.trans hl1.symm)]
            rw [hbe] at hps;have hin:Q0d wq0 (idV (us[n1 - 1]'(by omega))) ml:=hin.ints (by omega)
            have HIN:=hid hin;have HLE:Hid (hh.length=ml.length):=HHL.out.trans hl1.symm;have HHI:Hid (Q0d w4 (.slice Ah (k + 1) ch) hh):=HHH.out.ints (by rw [HHL.out]; omega)
            have HPS:=hid hps;clear hml hps hz hin hbe hl1;cases hbf:Q5y hh ml with
            | true =>
              go_wp2_with (go_at_call 117; refine (J3p _ _ _ _ _ (HHI.out.ext hxi) HIN.out HLE.out).mono ?_; rintro e w5 ⟨rfl,hx5⟩);go_roundw
              case rel=>exact ⟨n1 - 1,by omega,by go_num,by rw [<- HPOS.out,HPS.out,hbf]; rfl,hxi.trans hx5⟩
              case measure=>simp [intOf]; omega
            | false =>
              have HZ:Hid (n1=Q2x hh rt rt.length):=by rw [<- HPOS.out,HPS.out,hbf]; rfl
              cases hsm:decide (ml=hh) with
              | true =>
                have hcell6:=hcell;go_wp2_with (first | (go_at_call 117; refine (J3p _ _ _ _ _ (HHI.out.ext hxi) HIN.out HLE.out).mono ?_; rintro e w5 ⟨rfl,hx5⟩; have hcell5:=hx5.cell hcell) | (go_at_call 54; refine (Q8i _ _ _ _ _ (HIN.out.ext hx5) ((HHI.out.ext hxi).ext hx5)).mono ?_; rintro e w6 ⟨rfl,hx6⟩; rw [hsm]))
                go_roundw
                case rel=>exact ⟨m + 1,by omega,by go_num,⟨us,HOU.out.below (hxi.trans (hx5.trans hx6)),by rw [HST.out,J8f HZ.out (by omega) (HML.out.trans (of_decide_eq_true hsm))]; exact HRL.out.ext (hxi.trans (hx5.trans hx6))⟩,HXO.out.trans (hxi.trans (hx5.trans hx6))⟩
                case measure=>simp [intOf]; omega
              | false =>
                have HZ0:Hid (n1=0 ∨ rt.getD (n1 - 1) [] ≠ hh):=.inr (by rw [HML.out]; exact of_decide_eq_false hsm)
                go_wp2_with (first | (go_at_call 117; refine (J3p _ _ _ _ _ (HHI.out.ext hxi) HIN.out HLE.out).mono ?_; rintro e w5 ⟨rfl,hx5⟩; have hcell5:=hx5.cell hcell) | (go_at_call 54; refine (Q8i _ _ _ _ _ (HIN.out.ext hx5) ((HHI.out.ext hxi).ext hx5)).mono ?_; rintro e w6 ⟨rfl,hx6⟩; rw [hsm]))
                replace hxi:=hxi.trans (hx5.trans hx6);clear hx5 hx6 hcell hcell5 HIN;obtain ⟨wq,rfl⟩:∃ x,x=w6:=⟨_,rfl⟩;refine Flow.region [.w,.p,.p,.p,.w,.p,.w,.last,.p,.p,.p,.last,.last] [0,1,2,3,4,5,6,7,8,9,10,11,12] [[],[],[],[1,2],[0,1,2,3],[],[5],[0,1,2,3,4,5,6],[],[],[8,9],[0,1,2,3,4,5,6,7,8,9,10],[0,1,2,3,4,5,6,7,8,9,10,11]] [7,11,12]
                 [⟨fun v wz=>X0u wz (v 0) wq.heap.size 22,fun _ _ _ hx h=>h.ext hx⟩,.c 1 (.slice (some ⟨g0,0,none⟩) us.length cc),.c 2 (.int .i64 n1),.c 3 (.slice (some ⟨g0,0,none⟩) n1 cc),⟨fun v wz=>(fun v w'=>Q0q w' wq.heap.size 22 idV (v 4) (us.take n1)) v wz,fun _ _ _ hx h=>Q0q.below h hx⟩,.c 5 ((Value.slice Ah (k + 1) ch)),⟨fun v wz=>Q6p wz (v 6) (Value.slice Ah (k + 1) ch),fun _ _ _ hx h=>h.ext hx⟩,.none,.c 8 (.slice (some ⟨g0,0,none⟩) us.length cc),.c 9 (.int .i64 n1),.c 10 (.slice (if cc=n1 then some ⟨g0,0,none⟩ else some ⟨g0,0 + n1,none⟩) (us.length - n1) (cc - n1)),.none,.none]
                 [fun v w1 w'=>Q0q w' wq.heap.size 22 idV (v 7) (us.take n1 ++ [(Value.slice Ah (k + 1) ch)]) /\ Below wq.heap.size w1 w',fun v w1 w'=>Q0q w' wq.heap.size 22 idV (v 11) (us.take n1 ++ [(Value.slice Ah (k + 1) ch)] ++ us.drop n1) /\ Below wq.heap.size w1 w',fun v w1 w'=>v 12=v 11 /\ Q0q w' wq.heap.size 22 idV (v 11) (us.take n1 ++ [(Value.slice Ah (k + 1) ch)] ++ us.drop n1) /\ Below wq.heap.size w1 w'] (by kernel_rfl) rfl (by kernel_rfl) ⟨?g0,?g1,?g2,?g3,?g4,?g5,?g6,?g7,?g8,?g9,?g10,?g11,?g12,trivial⟩ ?post
                case g0=>
                 intro v w1 hx;intro K hK;go_simp;exact hK _ _ (Ext.box _ _) (X0u.made _ _ _ hx.size)
                case g1 | g2 | g5 | g8 | g9=>
                 intro v w1 hx;refine ⟨_,fun w=>?_,rfl⟩;go_simp
                case g3 | g10=>
                 intro v w1 hx;(repeat intro (zq:v _=_));refine ⟨_,fun w=>?_,rfl⟩;go_simp
                case g4=>
                 intro v w1 hx (q0:X0u w1 (v 0) wq.heap.size 22) (q1:v 1=_) (q2:v 2=_) (q3:v 3=_);intro K hK;have l1:(us.take n1).length=n1:=by rw [List.length_take]; omega
                 refine J2n _ _ 72 rfl wq.heap.size 22 i0 (.slice none 0 0) 24 Tryz.underlying72 hi hz0 hz1 hz2 rfl idV (v 0) (v 3) (us.take n1) (by go_simp) q0 (by go_simp) ?_ (fun y hy=>HONE.out y (List.mem_of_mem_take hy)) (by omega) (by decide) hx.size (fun v' w' hown hx2=>hK _ _ hx2 hown)
                 rw [q3];exact ⟨_,_,by rw [l1],fun j hj=>⟨g0,0,rfl,by rw [List.getElem_take]; exact hx.cell (hxi.cell (HCL.out j (by omega)))⟩⟩
                case g6=>
                 intro v w1 hx;(repeat intro (zq:v _=_));intro K hK;go_simp;exact hK _ _ (Ext.box _ _) (Q6p.made _ _ _)
                case g7=>
                 intro v w1 hx _ (q1:v 1=_) (q2:v 2=_) (q3:v 3=_) (q4:(fun v w'=>Q0q w' wq.heap.size 22 idV (v 4) (us.take n1)) v w1) (q5:v 5=_) (q6:Q6p w1 (v 6) (Value.slice Ah (k + 1) ch));intro wl hT;obtain rfl:wl=w1:=hT;intro bb hbb;subst hbb;intro K hK;refine Q5d _ _ 72 rfl wq.heap.size 22 i0 (.slice none 0 0) 24 Tryz.underlying72 hi hz0 hz1 hz2 rfl idV (v 4) (v 6) (us.take n1) [(Value.slice Ah (k + 1) ch)] (by go_simp) q4 (by go_simp) (Q6p.src q6) (fun y hy=>by rw [List.mem_singleton] at hy; rw [hy]; exact (show (idV (Value.slice Ah (k + 1) ch)).oneCell'=true from rfl)) (by rw [List.length_take,List.length_singleton]; omega) (by decide) hx.size (fun v' w' hown hg=>hK _ _ ⟨hown,below_grown q4 hg (Nat.le_refl _) hx.size⟩)
                case g11=>
                 intro v w1 hx _ (q1:v 1=_) (q2:v 2=_) (q3:v 3=_) _ (q5:v 5=_) _ (q8:v 8=_) (q9:v 9=_) (q10:v 10=_);intro wl hT;replace hT:(fun v w1 w'=>Q0q w' wq.heap.size 22 idV (v 7) (us.take n1 ++ [(Value.slice Ah (k + 1) ch)]) /\ Below wq.heap.size w1 w') v w1 wl:=hT;intro bb hbb;subst hbb;obtain ⟨hT1,hT2⟩:=hT;intro K hK;have hsz:wq.heap.size <= wl.heap.size:=Nat.le_trans hx.size hT2.size;have l2:(us.drop n1).length=us.length - n1:=List.length_drop;have hc2:Hid (∀ j (hj:j < us.length),wl.cell? ⟨g0,0 + j,none⟩=some (idV us[j])):=fun j hj=>(hT2.cell (p:=⟨g0,0 + j,none⟩) (Nat.lt_of_lt_of_le hgl hxi.size)).trans (hx.cell (hxi.cell (HCL.out j hj)));refine Q5d _ _ 72 rfl wq.heap.size 22 i0 (.slice none 0 0) 24 Tryz.underlying72 hi hz0 hz1 hz2 rfl idV (v 7) (v 10) (us.take n1 ++ [(Value.slice Ah (k + 1) ch)]) (us.drop n1) (by go_simp) hT1 (by go_simp) ?_ (fun y hy=>HONE.out y (List.mem_of_mem_drop hy)) (by rw [List.length_append,List.length_take,List.length_singleton]; omega) (by decide) hsz (fun v' w' hown hg=>hK _ _ ⟨hown,hT2.trans (below_grown hT1 hg (Nat.le_refl _) hsz)⟩)
                 rw [q10];exact ⟨_,_,by rw [l2],fun j hj=>⟨g0,0 + n1,by rw [if_neg (by omega)],by rw [List.getElem_drop,Nat.add_assoc]; exact hc2.out (n1 + j) (by omega)⟩⟩
                case g12=>
                 intro v w1 hx _ (q1:v 1=_) (q2:v 2=_) (q3:v 3=_) _ (q5:v 5=_) _ (q8:v 8=_) (q9:v 9=_) (q10:v 10=_);intro wl hT;replace hT:(fun v w1 w'=>Q0q w' wq.heap.size 22 idV (v 11) (us.take n1 ++ [(Value.slice Ah (k + 1) ch)] ++ us.drop n1) /\ Below wq.heap.size w1 w') v w1 wl:=hT;intro bb hbb;subst hbb;intro K hK;go_simp;exact hK _ _ ⟨rfl,hT⟩
                case post =>
                 intro v w1 hx (q0:X0u w1 (v 0) wq.heap.size 22);(iterate 3 intro (zq:v _=_));intro (q4:(fun v w'=>Q0q w' wq.heap.size 22 idV (v 4) (us.take n1)) v w1);(iterate 1 intro (zq:v _=_));intro (q6:Q6p w1 (v 6) (Value.slice Ah (k + 1) ch));(iterate 3 intro (zq:v _=_));intro w2 hE;replace hE:(fun v w1 w'=>v 12=v 11 /\ Q0q w' wq.heap.size 22 idV (v 11) (us.take n1 ++ [(Value.slice Ah (k + 1) ch)] ++ us.drop n1) /\ Below wq.heap.size w1 w') v w1 w2:=hE;simp only [Flow.acts,Act.put];go_simp;obtain ⟨_,e2,e3⟩:=hE;have hx9:=J5a hx e3;have hrl9:=RL.insert (HRL.out.ext (hxi.trans hx9)) (HHH.out.below (hxi.trans hx9)) (show n1 <= rt.length by have:=HLU.out; omega)
                 have hown9:=e2.weaken (show W.heap.size <= wq.heap.size from Nat.le_trans hB4 hxi.size)
                 have HST9:Hid (s.X0s k (m + 1)=rt.take n1 ++ [hh] ++ rt.drop n1):=HST.out.trans (J6o HZ.out HZ0.out);have HR9:Hid (RL _ _ _):=hrl9;have hxz:=(HXO.out.trans hxi).trans hx9;clear hrl9 q0 q4 q6 hx e3 hx9;go_wp2
                 all_goals
                  go_roundw
                  case rel=>exact ⟨m + 1,by omega,by go_num,⟨_,hown9,by rw [HST9.out]; exact HR9.out⟩,hxz⟩
                  case measure=>simp [intOf]; omega
     . have hmn:m=n:=by omega
       subst hmn;have hsz:=Y1k s k m;have hsz2:(s.Q7i k).length <= 6 * 8:=Nat.le_trans (X7m s k) (Nat.mul_le_mul (by omega) (by rw [HN.out]; omega))
       have HSZ:Hid ((s.X0s k m).length <= 2000):=hid (by omega)
       have HSZ2:Hid ((s.Q7i k).length <= 2000):=hid (by omega)
       have HSZ3:Hid (W.heap.size <= w2.heap.size):=hid HXW2.out.size;have hst:s.Q7i (k + 1)=s.Q7i k ++ s.X0s k m:=by rw [<- HN.out]; rfl
       have HST:=hid hst;have hcells:True:=trivial;clear hsz hsz2 hst;go_wp2_with (refine Q1z (o:=⟨some 74,_,_,_,_,_⟩) rfl ?_; refine J4c (.tmp 72) (.tmp 73) rfl rfl (HO.out.ext HX2.out) rfl HR.out HSZ2.out HSZ.out HSZ3.out ?_; intro v' w9 hown' hb9);have HLL:=hid hown';have HB9:Hid (Ext W w9):=Below.trans HXW2.out hb9;clear hown' hb9;go_wp2;go_roundw
       case rel=>exact ⟨k + 1,by omega,by go_num,by rw [HST.out]; exact HLL.out,HB9.out⟩
       case measure=>simp [intOf]; omega
  . have hkT:k=T:=by omega
    subst hkT;have he:s.hist=s.Q7i k:=by rw [<- HT.out]; rfl
    have HE:=hid he;clear he;go_wp2;go_ret;exact ⟨_,rfl,by rw [HE.out]; exact HO.out.weaken HW.out.size,HW.out.trans HXK.out⟩
end Go.Proofs
namespace Go.Proofs
open Go.RowKit Go.Tw Go.Flow
attribute [local go_sem] Oper.semAt_some
def J8u (w:World) (x:Value) (o:Option (List Bool)):Prop:=match o with
 | none=>x=.slice none 0 0
 | some b=>Q1q w x b
theorem J8u.ext {w w':World} {x:Value} {o:Option (List Bool)} (h:J8u w x o) (hx:Ext w w'):J8u w' x o:=by
 cases o with
 | none=>exact h
 | some b=>exact Q1q.ext h hx
end Go.Proofs
namespace Go.Proofs
open Go.RowKit Go.Tw Go.Flow
attribute [local go_sem] Oper.semAt_some
theorem J2t {w:World} {o:Oper} {a:Act} (x:Operand) (k:Nat) (hop:o.op=.extract x k) {u r:Value} (h:a.eval x=u) (hr:∀ w,(Instr.extract u k).run Tryz.prog w=.ok r w):(execOp a.eval o).run Tryz.prog w=.ok (.value r) w:=by
 unfold execOp;simp only [hop,h,Sem.run_bind,hr,Result.andThen_ok,Sem.run_pure]
theorem J6e {w:World} {o:Oper} {a:Act} (x:Operand) (hop:o.op=.move x) {u:Value} (h:a.eval x=u):(execOp a.eval o).run Tryz.prog w=.ok (.value u) w:=by
 unfold execOp;simp only [hop,h,Sem.run_pure]
theorem J4i {w:World} {o:Oper} {a:Act} (x:Operand) (hop:o.op=.assign x) {u:Value} (h:a.eval x=u):(execOp a.eval o).run Tryz.prog w=.ok (.value u) w:=by
 unfold execOp;simp only [hop,h,Sem.run_pure]
theorem J8z (w:World) (x y:Value):(Instr.extract (.tuple #[x,y]) 0).run Tryz.prog w=.ok x w:=rfl
theorem J8y (w:World) (x y:Value):(Instr.extract (.tuple #[x,y]) 1).run Tryz.prog w=.ok y w:=rfl
end Go.Proofs
namespace Go.Tw
def J3s (k:Nat):Code -> Option Code
 | .seq a b=>if Z6w k a=true then some (.seq a b) else match J3s k a with
   | some c=>some c
   | none=>J3s k b
 | .region n o d=>if Nat.beq n k=true then some (.region n o d) else none
 | .cond _ a b=>match J3s k a with
   | some c=>some c
   | none=>J3s k b
 | .block _ a=>J3s k a
 | .loop a=>J3s k a
 | .scope a=>J3s k a
 | _=>none
noncomputable def J9a (fn:Func) (k:Nat):Code:=((fn.body.bind (J3s k)).getD .skip)
end Go.Tw
