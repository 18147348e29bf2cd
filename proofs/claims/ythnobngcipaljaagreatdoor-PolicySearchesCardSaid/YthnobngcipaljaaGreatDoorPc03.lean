/- Contract of the reference: Histories. Contract of the reference: Coded. -/
import Derived.Test.YthnobngcipaljaaGreatDoorPo34
import Derived.Test.YthnobngcipaljaaGreatDoorPo36
import Derived.Test.YthnobngcipaljaaGreatDoorPc02
import Derived.Test.YthnobngcipaljaaGreatDoorPc01
set_option maxRecDepth 1000000
set_option maxHeartbeats 64000000
set_option linter.unusedVariables false
set_option linter.unusedSimpArgs false
set_option linter.constructorNameAsVariable false
namespace Go.Proofs
open Go.RowKit Go.Tw Go.Flow
attribute [local go_sem] Oper.semAt_some
theorem J4s (w:World) (v:Value) (s:Q0b) (hv:Q0h w v s) (he:s.err = 0) :
    Calls Tryz.prog 44 #[v] w fun e w'=>∃ x,e = .returned x /\ LL w' w.heap.size x s.hist /\ Ext w w':=by
 obtain ⟨i0,hi,hz0,hz1,hz2⟩:=info_parts Tryz.info22;obtain ⟨n0,ni,nz0,nz1,nz2⟩:=info_parts Tryz.info3;have hS:=Q0y.of he;have hfix:Hid (∀ i,i < s.members.length -> (Q0c s.members i).length = s.ships.length):=fun i h=>(hS.shaped i h).1;have hT6:=hS.tides.2;have hn8:=hS.some.2;obtain ⟨a,b,rfl,h2⟩:=hv;obtain ⟨A0,capa,rfl,-,-,-⟩:=h2.ships.opened;obtain ⟨B,capb,rfl,-,-,hc⟩:=h2.members.opened;have HC:=Lib.hid hc;obtain ⟨n,hn⟩:∃ n,s.members.length = n:=⟨_,rfl⟩;obtain ⟨T,hT⟩:∃ n,s.ships.length = n:=⟨_,rfl⟩;have HN:=Lib.hid hn;have HT:=Lib.hid hT;rw [hn] at HC hn8 hfix;rw [hT] at hT6 hfix;rw [hn,hT];clear h2 hc hS he hn hT;go_enter Tryz.func44,Tryz.ntmps44;go_wp2_with fail;change Code.wp _ _ _ _ (w.alloc (.cells #[.int .i64 s.limit,.slice A0 T capa,.slice B n capb] 25));obtain ⟨W,hWW,k0,HXW,eW⟩:=Q1q w 25 #[.int .i64 s.limit,.slice A0 T capa,.slice B n capb];rw [hWW];clear hWW;obtain ⟨gs,hgs⟩:∃ x,w.heap.size = x:=⟨_,rfl⟩;rw [hgs] at k0 eW ⊢;have K0:=Lib.hid k0;have HW:=HXW;have hgW:gs < W.heap.size:=k0.lt;clear k0 hgs
 go_loopw [3,4] (fun o t wr=>∃ (k:Nat),k <= T /\ t = .int .i64 k /\ LL wr W.heap.size o (s.Q7x k) /\ Ext W wr) (fun _ t _=>T - (intOf t).toNat)
 case atStart=>exact ⟨0,Nat.zero_le _,rfl,LL.nil _ _,Ext.refl _⟩
 case round =>
  obtain ⟨k,hk,rfl,hout,hxk⟩:=hrel;obtain ⟨w1,rfl⟩:∃ x,x = wr:=⟨_,rfl⟩;have c0:=(K0.out.ext hxk).cell 0;have c1:=(K0.out.ext hxk).cell 1;have c2:=(K0.out.ext hxk).cell 2;simp only [Go.Tw.gA,Go.Tw.gB,Go.Tw.gC] at c0 c1 c2;have HXK:=Lib.hid hxk;have HO:=Lib.hid hout;clear hxk hout
  by_cases hlt:k < T
  . have hkI:(k:Int) < T:=by omega
    go_light
    go_wp2_with fail
    go_loopw [5,6] (fun r i wr=>∃ (m:Nat),m <= n /\ i = .int .i64 m /\ LL wr W.heap.size r (s.X2l k m) /\ Ext w1 wr) (fun _ i _=>n - (intOf i).toNat)
    case atStart=>exact ⟨0,Nat.zero_le _,rfl,LL.nil _ _,Ext.refl _⟩
    case round =>
     obtain ⟨m,hm,rfl,hrow,hx2⟩:=hrel;obtain ⟨w2,rfl⟩:∃ x,x = wr:=⟨_,rfl⟩;have hxW2:=HXK.out.trans hx2;have d0:=(K0.out.ext hxW2).cell 0;have d1:=(K0.out.ext hxW2).cell 1;have d2:=(K0.out.ext hxW2).cell 2;simp only [Go.Tw.gA,Go.Tw.gB,Go.Tw.gC] at d0 d1 d2;have HX2:=Lib.hid hx2;have HXW2:=Lib.hid hxW2;have HR:=Lib.hid hrow;clear hx2 hrow
     by_cases hml:m < n
     . have hmI:(m:Int) < n:=by omega
       obtain ⟨bm,off,x0,y0,z0,hBe,hbm,-,-,e2,-,-,hix,-,-,-⟩:=HC.out m hml;subst hBe;obtain ⟨C,capc,rfl,-,hcapc,hcC⟩:=hix.opened;have hfl:=hfix.out m hml;obtain ⟨lc,hlc⟩:∃ x,Q0c s.members m = x:=⟨_,rfl⟩;rw [hlc] at hfl hcapc hcC e2 hix;rw [hfl] at e2 hcapc;obtain ⟨bc,oc,hCe,_⟩:=hcC 0 (by omega)
       subst hCe;have hkc:k + 1 <= capc:=by omega
       have hkc1:¬ ((0:Int) <= (k:Int) + 1 -> (capc:Int) < (k:Int) + 1):=by omega
       have hkc2:¬ capc = 0:=by omega
       have hkc4:¬ (k:Int) + 1 < 0:=by omega
       have hkc3:((k:Int) + 1).toNat = k + 1:=by omega
       have hkc5:(k:Int) + 1 <= (capc:Int):=by omega
       have hwk:IntKind.i64.wrap ((k:Int) + 1) = (k:Int) + 1:=Q2p _ (by omega) (by omega)
       have hxb:=Ext.box w2 (.cells #[] 3);have hown:Q0t (w2.alloc (.cells #[] 3)) w2.heap.size 3 (Value.int .i64) (.slice (some ⟨w2.heap.size,0,none⟩) 0 0) []:=World.ownsRow_made w2 #[] 0 (Nat.le_refl _) (by unfold maxLen; omega) rfl
       have e2':=hxb.cell (HXW2.out.cell (HW.out.cell e2));have d2':=hxb.cell d2;have lt1:(lc.take (k + 1)).length = k + 1:=by rw [List.length_take]; omega
       have hixw:=(X6x (by rw [hfl] at hix; exact hix) (show k + 1 <= lc.length by omega)).ext ((HW.out.trans HXW2.out).trans hxb)
       have HSRC:Hid (∀ j u,((lc.take (k + 1)).map (Value.int .i64))[j]? = some u -> (w2.alloc (.cells #[] 3)).cell? ((⟨bc,oc,none⟩:Addr).add j) = some u):=J8k hixw lt1;have HONE1:Hid (∀ u ∈ (lc.take (k + 1)).map (Value.int .i64),u.oneCell' = true):=by
        exact (by intro u hu; obtain ⟨y,_,rfl⟩:=List.mem_map.1 hu; rfl:∀ u ∈ (lc.take (k + 1)).map (Value.int .i64),u.oneCell' = true)
       have HL2:Hid (((lc.take (k + 1)).map (Value.int .i64)).length = (k + 1) * 1):=Lib.hid (by rw [List.length_map,lt1]; omega)
       have hdc:(w2.alloc (.cells #[] 3)).cell? ⟨bm,off + m * 5 + 2,none⟩ = some (.slice (some ⟨bc,oc,none⟩) T capc):=e2';have HLC:=Lib.hid lt1;have HHC:=Lib.hid hlc;clear hcC hix hixw e2 e2' lt1 hlc hxb
       go_light
       go_wp2_with (at_builtin; refine wpList_append_own _ rfl _ _ 22 rfl (w2.heap.size) 3 n0 (.int .i64 0) 1 8 Tryz.underlying22 ni nz0 nz1 nz2 rfl (by decide) _ _ _ rfl hown ⟨bc,oc,none⟩ (k + 1) capc ((lc.take (k + 1)).map (Value.int .i64)) rfl HL2.out HSRC.out HONE1.out ?_ ?_ ?_ ?_; (focus (unfold maxLen; simp; omega)); (focus (simp; omega)); (focus (simp)); intro v' w4 hown' hgrow _; refine halted ?_)
       have hx4:Ext w2 w4:=Below.trans (Ext.box w2 (.cells #[] 3)) (below_grown hown hgrow (Nat.le_refl _) (Ext.box w2 (.cells #[] 3)).size);have hownh:Q0t w4 0 3 (.int .i64) v' (lc.take (k + 1)):=by
        refine Q0t.weaken ?_ (Nat.zero_le w2.heap.size);simp only [List.length_nil,Nat.zero_add,List.map_nil,List.nil_append] at hown';unfold Q0t;rw [HLC.out];exact hown'
       clear hown' hgrow hown hdc d2';unfold Q1j;obtain ⟨Ah,ch,rfl,hch⟩:=hownh.shape;rw [HLC.out] at hownh hch ⊢;have hst:s.X2l k (m + 1) = X0h (lc.take (k + 1)) (s.X2l k m):=by rw [<- HHC.out]; rfl
       have hlens:∀ j,j < (s.X2l k m).length -> ((s.X2l k m).getD j []).length = k + 1:=J8j (by rw [HN.out]; omega) (fun i h=>by rw [HN.out] at h; rw [hfix.out i h]; omega)
       have hrl:=Y3y s k m;obtain ⟨us,hou,hru⟩:=HR.out.ext hx4;have hul:us.length <= 8:=by rw [hru.1]; omega
       have HHH:=Lib.hid hownh;obtain ⟨hh,hhe⟩:∃ x,lc.take (k + 1) = x:=⟨_,rfl⟩;have hhl:hh.length = k + 1:=by rw [<- hhe]; exact HLC.out
       rw [hhe] at hst HHH;obtain ⟨rt,hrt⟩:∃ x,s.X2l k m = x:=⟨_,rfl⟩;rw [hrt] at hst hlens hru hrl;have HST:=Lib.hid hst;have HLENS:=Lib.hid hlens;have HRL:=Lib.hid hru;have HHL:=Lib.hid hhl;have HONE:Hid (∀ y ∈ us,(idV y).oneCell' = true):=hru.one;have HLU:Hid (us.length = rt.length):=Lib.hid hru.1;have hxo:=HX2.out.trans hx4;have HXO:=Lib.hid hxo;have hB4:W.heap.size <= w4.heap.size:=Nat.le_trans HXW2.out.size hx4.size;have HX4:=Lib.hid hx4;clear hst hlens hru hhl hhe hrt hownh HLC HHC HSRC HONE1 HL2 hxo hx4 HR;have HOU:=Lib.hid hou
       rcases hou.cells2 with ⟨rfl,hve⟩ | ⟨g0,cc,rfl,hcc,hbg,hgl,hcl⟩
       . have HVE:=Lib.hid hve
         clear hve hou;go_wp2
         go_loopw [8] (fun a wr=>∃ (n1:Nat),n1 <= us.length /\ a = .int .i64 n1 /\ Q3c hh rt n1 = Q3c hh rt rt.length /\ Ext w4 wr) (fun a _=>(intOf a).toNat)
         case atStart=>exact ⟨us.length,Nat.le_refl _,by rw [HVE.out]; rfl,by rw [HRL.out.1],Ext.refl _⟩
         case round =>
          obtain ⟨n1,hnl,rfl,hpos,hxi⟩:=hrel;have HPOS:=Lib.hid hpos; clear hpos;have hz:n1 = 0:=by
           have:=HVE.out;rw [this] at hnl
           simpa using hnl
          have HZ:Hid (0 = Q3c hh rt rt.length):=by rw [<- HPOS.out,hz]; exact rfl
          subst hz;obtain ⟨wq,rfl⟩:∃ x,x = wr:=⟨_,rfl⟩;go_wp2;refine Flow.region [.w,.p,.p,.p,.w,.p,.w,.last,.p,.p,.p,.last,.last] [0,1,2,3,4,5,6,7,8,9,10,11,12] [[],[],[],[1,2],[0,1,2,3],[],[5],[0,1,2,3,4,5,6],[],[],[8,9],[0,1,2,3,4,5,6,7,8,9,10],[0,1,2,3,4,5,6,7,8,9,10,11]] [7,11,12]
           [⟨fun v wz=>X1p wz (v 0) wq.heap.size 22,fun _ _ _ hx h=>h.ext hx⟩,.c 1 (.slice (none) 0 0),.c 2 (.int .i64 0),.c 3 (.slice none 0 0),⟨fun v wz=>(fun v w'=>Q0t w' wq.heap.size 22 idV (v 4) (us.take 0)) v wz,fun _ _ _ hx h=>Q0t.below h hx⟩,.c 5 ((Value.slice Ah (k + 1) ch)),⟨fun v wz=>Q7a wz (v 6) (Value.slice Ah (k + 1) ch),fun _ _ _ hx h=>h.ext hx⟩,.none,.c 8 (.slice (none) 0 0),.c 9 (.int .i64 0),.c 10 (.slice none 0 0),.none,.none]
           [fun v w1 w'=>Q0t w' wq.heap.size 22 idV (v 7) (us.take 0 ++ [(Value.slice Ah (k + 1) ch)]) /\ Below wq.heap.size w1 w',fun v w1 w'=>Q0t w' wq.heap.size 22 idV (v 11) (us.take 0 ++ [(Value.slice Ah (k + 1) ch)] ++ us.drop 0) /\ Below wq.heap.size w1 w',fun v w1 w'=>v 12 = v 11 /\ Q0t w' wq.heap.size 22 idV (v 11) (us.take 0 ++ [(Value.slice Ah (k + 1) ch)] ++ us.drop 0) /\ Below wq.heap.size w1 w'] (by kernel_rfl) rfl (by kernel_rfl) ⟨?g0,?g1,?g2,?g3,?g4,?g5,?g6,?g7,?g8,?g9,?g10,?g11,?g12,trivial⟩ ?post
          case g0=>
           intro v w1 hx;intro K hK;go_simp;exact hK _ _ (Ext.box _ _) (X1p.made _ _ _ hx.size)
          case g1 | g2 | g5 | g8 | g9=>
           intro v w1 hx;refine ⟨_,fun w=>?_,rfl⟩;go_simp
          case g3 | g10=>
           intro v w1 hx;(repeat intro (zq:v _ = _));refine ⟨_,fun w=>?_,rfl⟩;go_simp
          case g4=>
           intro v w1 hx (q0:X1p w1 (v 0) wq.heap.size 22) (q1:v 1 = _) (q2:v 2 = _) (q3:v 3 = _);intro K hK;have l1:(us.take 0).length = 0:=by rw [List.length_take]; omega
           refine J4t _ _ 72 rfl wq.heap.size 22 i0 (.slice none 0 0) 24 Tryz.underlying72 hi hz0 hz1 hz2 rfl idV (v 0) (v 3) (us.take 0) (by go_simp) q0 (by go_simp) ?_ (fun y hy=>HONE.out y (List.mem_of_mem_take hy)) (by omega) (by decide) hx.size (fun v' w' hown hx2=>hK _ _ hx2 hown)
           rw [q3];exact ⟨none,0,by rw [l1],fun j hj=>by rw [l1] at hj; omega⟩
          case g6=>
           intro v w1 hx;(repeat intro (zq:v _ = _));intro K hK;go_simp;exact hK _ _ (Ext.box _ _) (Q7a.made _ _ _)
          case g7=>
           intro v w1 hx _ (q1:v 1 = _) (q2:v 2 = _) (q3:v 3 = _) (q4:(fun v w'=>Q0t w' wq.heap.size 22 idV (v 4) (us.take 0)) v w1) (q5:v 5 = _) (q6:Q7a w1 (v 6) (Value.slice Ah (k + 1) ch));intro wl hT;obtain rfl:wl = w1:=hT;intro bb hbb;subst hbb;intro K hK;refine Q5k _ _ 72 rfl wq.heap.size 22 i0 (.slice none 0 0) 24 Tryz.underlying72 hi hz0 hz1 hz2 rfl idV (v 4) (v 6) (us.take 0) [(Value.slice Ah (k + 1) ch)] (by go_simp) q4 (by go_simp) (Q7a.src q6) (fun y hy=>by rw [List.mem_singleton] at hy; rw [hy]; exact (show (idV (Value.slice Ah (k + 1) ch)).oneCell' = true from rfl)) (by rw [List.length_take,List.length_singleton]; omega) (by decide) hx.size (fun v' w' hown hg=>hK _ _ ⟨hown,below_grown q4 hg (Nat.le_refl _) hx.size⟩)
          case g11=>
           intro v w1 hx _ (q1:v 1 = _) (q2:v 2 = _) (q3:v 3 = _) _ (q5:v 5 = _) _ (q8:v 8 = _) (q9:v 9 = _) (q10:v 10 = _);intro wl hT;replace hT:(fun v w1 w'=>Q0t w' wq.heap.size 22 idV (v 7) (us.take 0 ++ [(Value.slice Ah (k + 1) ch)]) /\ Below wq.heap.size w1 w') v w1 wl:=hT;intro bb hbb;subst hbb;obtain ⟨hT1,hT2⟩:=hT;intro K hK;have hsz:wq.heap.size <= wl.heap.size:=Nat.le_trans hx.size hT2.size;have l2:(us.drop 0).length = us.length - 0:=List.length_drop;refine Q5k _ _ 72 rfl wq.heap.size 22 i0 (.slice none 0 0) 24 Tryz.underlying72 hi hz0 hz1 hz2 rfl idV (v 7) (v 10) (us.take 0 ++ [(Value.slice Ah (k + 1) ch)]) (us.drop 0) (by go_simp) hT1 (by go_simp) ?_ (fun y hy=>HONE.out y (List.mem_of_mem_drop hy)) (by rw [List.length_append,List.length_take,List.length_singleton]; omega) (by decide) hsz (fun v' w' hown hg=>hK _ _ ⟨hown,hT2.trans (below_grown hT1 hg (Nat.le_refl _) hsz)⟩)
           rw [q10];exact ⟨none,0,by rw [l2,HVE.out]; rfl,fun j hj=>by rw [l2,HVE.out] at hj; simp at hj⟩
          case g12=>
           intro v w1 hx _ (q1:v 1 = _) (q2:v 2 = _) (q3:v 3 = _) _ (q5:v 5 = _) _ (q8:v 8 = _) (q9:v 9 = _) (q10:v 10 = _);intro wl hT;replace hT:(fun v w1 w'=>Q0t w' wq.heap.size 22 idV (v 11) (us.take 0 ++ [(Value.slice Ah (k + 1) ch)] ++ us.drop 0) /\ Below wq.heap.size w1 w') v w1 wl:=hT;intro bb hbb;subst hbb;intro K hK;go_simp;exact hK _ _ ⟨rfl,hT⟩
          case post =>
           intro v w1 hx (q0:X1p w1 (v 0) wq.heap.size 22);(iterate 3 intro (zq:v _ = _));intro (q4:(fun v w'=>Q0t w' wq.heap.size 22 idV (v 4) (us.take 0)) v w1);(iterate 1 intro (zq:v _ = _));intro (q6:Q7a w1 (v 6) (Value.slice Ah (k + 1) ch));(iterate 3 intro (zq:v _ = _));intro w2 hE;replace hE:(fun v w1 w'=>v 12 = v 11 /\ Q0t w' wq.heap.size 22 idV (v 11) (us.take 0 ++ [(Value.slice Ah (k + 1) ch)] ++ us.drop 0) /\ Below wq.heap.size w1 w') v w1 w2:=hE;simp only [Flow.acts,Act.put];go_simp;obtain ⟨_,e2,e3⟩:=hE;have hx9:=J7a hx e3;have hrl9:=RL.insert (HRL.out.ext (hxi.trans hx9)) (HHH.out.below (hxi.trans hx9)) (Nat.zero_le rt.length);have hown9:=e2.weaken (show W.heap.size <= wq.heap.size from Nat.le_trans hB4 hxi.size)
           have HST9:Hid (s.X2l k (m + 1) = rt.take 0 ++ [hh] ++ rt.drop 0):=HST.out.trans (J7z HZ.out (.inl rfl));have HR9:Hid (RL _ _ _):=hrl9;have hxz:=(HXO.out.trans hxi).trans hx9;clear hrl9 q0 q4 q6 hx e3 hx9;go_wp2
           all_goals
            go_roundw
            case rel=>exact ⟨m + 1,by omega,by go_num,⟨_,hown9,by rw [HST9.out]; exact HR9.out⟩,hxz⟩
            case measure=>simp [intOf]; omega
       . have HCL:=Lib.hid hcl
         clear hou hcl;go_wp2
         go_loopw [8] (fun a wr=>∃ (n1:Nat),n1 <= us.length /\ a = .int .i64 n1 /\ Q3c hh rt n1 = Q3c hh rt rt.length /\ Ext w4 wr) (fun a _=>(intOf a).toNat)
         case atStart=>exact ⟨us.length,Nat.le_refl _,rfl,by rw [HRL.out.1],Ext.refl _⟩
         case round =>
          obtain ⟨n1,hnl,rfl,hpos,hxi⟩:=hrel;have HPOS:=Lib.hid hpos; clear hpos;obtain ⟨wq0,rfl⟩:∃ x,x = wr:=⟨_,rfl⟩
          by_cases hz:n1 = 0
          . have HZ:Hid (n1 = Q3c hh rt rt.length):=by rw [<- HPOS.out,hz]; exact rfl
            have HZ0:Hid (n1 = 0 ∨ rt.getD (n1 - 1) [] ≠ hh):=.inl hz;have nz1:¬ (0:Int) < (n1:Int):=by omega
            have nz2:¬ cc < n1:=by omega
            clear hz;obtain ⟨wq,rfl⟩:∃ x,x = wq0:=⟨_,rfl⟩;go_wp2;refine Flow.region [.w,.p,.p,.p,.w,.p,.w,.last,.p,.p,.p,.last,.last] [0,1,2,3,4,5,6,7,8,9,10,11,12] [[],[],[],[1,2],[0,1,2,3],[],[5],[0,1,2,3,4,5,6],[],[],[8,9],[0,1,2,3,4,5,6,7,8,9,10],[0,1,2,3,4,5,6,7,8,9,10,11]] [7,11,12]
             [⟨fun v wz=>X1p wz (v 0) wq.heap.size 22,fun _ _ _ hx h=>h.ext hx⟩,.c 1 (.slice (some ⟨g0,0,none⟩) us.length cc),.c 2 (.int .i64 n1),.c 3 (.slice (some ⟨g0,0,none⟩) n1 cc),⟨fun v wz=>(fun v w'=>Q0t w' wq.heap.size 22 idV (v 4) (us.take n1)) v wz,fun _ _ _ hx h=>Q0t.below h hx⟩,.c 5 ((Value.slice Ah (k + 1) ch)),⟨fun v wz=>Q7a wz (v 6) (Value.slice Ah (k + 1) ch),fun _ _ _ hx h=>h.ext hx⟩,.none,.c 8 (.slice (some ⟨g0,0,none⟩) us.length cc),.c 9 (.int .i64 n1),.c 10 (.slice (if cc = n1 then some ⟨g0,0,none⟩ else some ⟨g0,0 + n1,none⟩) (us.length - n1) (cc - n1)),.none,.none]
             [fun v w1 w'=>Q0t w' wq.heap.size 22 idV (v 7) (us.take n1 ++ [(Value.slice Ah (k + 1) ch)]) /\ Below wq.heap.size w1 w',fun v w1 w'=>Q0t w' wq.heap.size 22 idV (v 11) (us.take n1 ++ [(Value.slice Ah (k + 1) ch)] ++ us.drop n1) /\ Below wq.heap.size w1 w',fun v w1 w'=>v 12 = v 11 /\ Q0t w' wq.heap.size 22 idV (v 11) (us.take n1 ++ [(Value.slice Ah (k + 1) ch)] ++ us.drop n1) /\ Below wq.heap.size w1 w'] (by kernel_rfl) rfl (by kernel_rfl) ⟨?g0,?g1,?g2,?g3,?g4,?g5,?g6,?g7,?g8,?g9,?g10,?g11,?g12,trivial⟩ ?post
            case g0=>
             intro v w1 hx;intro K hK;go_simp;exact hK _ _ (Ext.box _ _) (X1p.made _ _ _ hx.size)
            case g1 | g2 | g5 | g8 | g9=>
             intro v w1 hx;refine ⟨_,fun w=>?_,rfl⟩;go_simp
            case g3 | g10=>
             intro v w1 hx;(repeat intro (zq:v _ = _));refine ⟨_,fun w=>?_,rfl⟩;go_simp
            case g4=>
             intro v w1 hx (q0:X1p w1 (v 0) wq.heap.size 22) (q1:v 1 = _) (q2:v 2 = _) (q3:v 3 = _);intro K hK;have l1:(us.take n1).length = n1:=by rw [List.length_take]; omega
             refine J4t _ _ 72 rfl wq.heap.size 22 i0 (.slice none 0 0) 24 Tryz.underlying72 hi hz0 hz1 hz2 rfl idV (v 0) (v 3) (us.take n1) (by go_simp) q0 (by go_simp) ?_ (fun y hy=>HONE.out y (List.mem_of_mem_take hy)) (by omega) (by decide) hx.size (fun v' w' hown hx2=>hK _ _ hx2 hown)
             rw [q3];exact ⟨_,_,by rw [l1],fun j hj=>⟨g0,0,rfl,by rw [List.getElem_take]; exact hx.cell (hxi.cell (HCL.out j (by omega)))⟩⟩
            case g6=>
             intro v w1 hx;(repeat intro (zq:v _ = _));intro K hK;go_simp;exact hK _ _ (Ext.box _ _) (Q7a.made _ _ _)
            case g7=>
             intro v w1 hx _ (q1:v 1 = _) (q2:v 2 = _) (q3:v 3 = _) (q4:(fun v w'=>Q0t w' wq.heap.size 22 idV (v 4) (us.take n1)) v w1) (q5:v 5 = _) (q6:Q7a w1 (v 6) (Value.slice Ah (k + 1) ch));intro wl hT;obtain rfl:wl = w1:=hT;intro bb hbb;subst hbb;intro K hK;refine Q5k _ _ 72 rfl wq.heap.size 22 i0 (.slice none 0 0) 24 Tryz.underlying72 hi hz0 hz1 hz2 rfl idV (v 4) (v 6) (us.take n1) [(Value.slice Ah (k + 1) ch)] (by go_simp) q4 (by go_simp) (Q7a.src q6) (fun y hy=>by rw [List.mem_singleton] at hy; rw [hy]; exact (show (idV (Value.slice Ah (k + 1) ch)).oneCell' = true from rfl)) (by rw [List.length_take,List.length_singleton]; omega) (by decide) hx.size (fun v' w' hown hg=>hK _ _ ⟨hown,below_grown q4 hg (Nat.le_refl _) hx.size⟩)
            case g11=>
             intro v w1 hx _ (q1:v 1 = _) (q2:v 2 = _) (q3:v 3 = _) _ (q5:v 5 = _) _ (q8:v 8 = _) (q9:v 9 = _) (q10:v 10 = _);intro wl hT;replace hT:(fun v w1 w'=>Q0t w' wq.heap.size 22 idV (v 7) (us.take n1 ++ [(Value.slice Ah (k + 1) ch)]) /\ Below wq.heap.size w1 w') v w1 wl:=hT;intro bb hbb;subst hbb;obtain ⟨hT1,hT2⟩:=hT;intro K hK;have hsz:wq.heap.size <= wl.heap.size:=Nat.le_trans hx.size hT2.size;have l2:(us.drop n1).length = us.length - n1:=List.length_drop;have hc2:Hid (∀ j (hj:j < us.length),wl.cell? ⟨g0,0 + j,none⟩ = some (idV us[j])):=fun j hj=>(hT2.cell (p:=⟨g0,0 + j,none⟩) (Nat.lt_of_lt_of_le hgl hxi.size)).trans (hx.cell (hxi.cell (HCL.out j hj)));refine Q5k _ _ 72 rfl wq.heap.size 22 i0 (.slice none 0 0) 24 Tryz.underlying72 hi hz0 hz1 hz2 rfl idV (v 7) (v 10) (us.take n1 ++ [(Value.slice Ah (k + 1) ch)]) (us.drop n1) (by go_simp) hT1 (by go_simp) ?_ (fun y hy=>HONE.out y (List.mem_of_mem_drop hy)) (by rw [List.length_append,List.length_take,List.length_singleton]; omega) (by decide) hsz (fun v' w' hown hg=>hK _ _ ⟨hown,hT2.trans (below_grown hT1 hg (Nat.le_refl _) hsz)⟩)
             rw [q10];exact ⟨_,_,by rw [l2],fun j hj=>⟨g0,0 + n1,by rw [if_neg (by omega)],by rw [List.getElem_drop,Nat.add_assoc]; exact hc2.out (n1 + j) (by omega)⟩⟩
            case g12=>
             intro v w1 hx _ (q1:v 1 = _) (q2:v 2 = _) (q3:v 3 = _) _ (q5:v 5 = _) _ (q8:v 8 = _) (q9:v 9 = _) (q10:v 10 = _);intro wl hT;replace hT:(fun v w1 w'=>Q0t w' wq.heap.size 22 idV (v 11) (us.take n1 ++ [(Value.slice Ah (k + 1) ch)] ++ us.drop n1) /\ Below wq.heap.size w1 w') v w1 wl:=hT;intro bb hbb;subst hbb;intro K hK;go_simp;exact hK _ _ ⟨rfl,hT⟩
            case post =>
             intro v w1 hx (q0:X1p w1 (v 0) wq.heap.size 22);(iterate 3 intro (zq:v _ = _));intro (q4:(fun v w'=>Q0t w' wq.heap.size 22 idV (v 4) (us.take n1)) v w1);(iterate 1 intro (zq:v _ = _));intro (q6:Q7a w1 (v 6) (Value.slice Ah (k + 1) ch));(iterate 3 intro (zq:v _ = _));intro w2 hE;replace hE:(fun v w1 w'=>v 12 = v 11 /\ Q0t w' wq.heap.size 22 idV (v 11) (us.take n1 ++ [(Value.slice Ah (k + 1) ch)] ++ us.drop n1) /\ Below wq.heap.size w1 w') v w1 w2:=hE;simp only [Flow.acts,Act.put];go_simp;obtain ⟨_,e2,e3⟩:=hE;have hx9:=J7a hx e3;have hrl9:=RL.insert (HRL.out.ext (hxi.trans hx9)) (HHH.out.below (hxi.trans hx9)) (show n1 <= rt.length by have:=HLU.out; omega)
             have hown9:=e2.weaken (show W.heap.size <= wq.heap.size from Nat.le_trans hB4 hxi.size)
             have HST9:Hid (s.X2l k (m + 1) = rt.take n1 ++ [hh] ++ rt.drop n1):=HST.out.trans (J7z HZ.out HZ0.out);have HR9:Hid (RL _ _ _):=hrl9;have hxz:=(HXO.out.trans hxi).trans hx9;clear hrl9 q0 q4 q6 hx e3 hx9;go_wp2
             all_goals
              go_roundw
              case rel=>exact ⟨m + 1,by omega,by go_num,⟨_,hown9,by rw [HST9.out]; exact HR9.out⟩,hxz⟩
              case measure=>simp [intOf]; omega
          . have i1:(0:Int) < (n1:Int):=by omega
            have i2:(0:Int) <= (n1:Int) - 1:=by omega
            have i3:(n1:Int) - 1 < (us.length:Int):=by omega
            have i4:((n1:Int) - 1).toNat = n1 - 1:=by omega
            have nz2:¬ cc < n1:=by omega
            have hcell:=hxi.cell (HCL.out (n1 - 1) (by omega))
            rw [Nat.zero_add] at hcell;have hin:=(HRL.out.ext hxi).2 (n1 - 1) (by have:=HLU.out; omega)
            rw [Q0v _ (show n1 - 1 < us.length by omega)] at hin
            have hl1:=HLENS.out (n1 - 1) (by have:=HLU.out; omega)
            have hps:Q3c hh rt n1 = if Q1x hh (rt.getD (n1 - 1) []) then Q3c hh rt (n1 - 1) else n1:=by
             obtain ⟨m,rfl⟩:∃ m,n1 = m + 1:=⟨n1 - 1,by omega⟩
             rfl
            obtain ⟨ml,hml⟩:∃ ml,rt.getD (n1 - 1) [] = ml:=⟨_,rfl⟩;have HML:=Lib.hid hml;rw [hml] at hin hps hl1;have hbe:Q1x hh ml = Q6e hh ml:=by unfold Q1x; rw [if_pos (HHL.out.trans hl1.symm)]
            rw [hbe] at hps;have hin:Q0d wq0 (idV (us[n1 - 1]'(by omega))) ml:=hin.ints (by omega)
            have HIN:=Lib.hid hin;have HLE:Hid (hh.length = ml.length):=HHL.out.trans hl1.symm;have HHI:Hid (Q0d w4 (.slice Ah (k + 1) ch) hh):=HHH.out.ints (by rw [HHL.out]; omega)
            have HPS:=Lib.hid hps;clear hml hps hz hin hbe hl1;cases hbf:Q6e hh ml with
            | true =>
              go_wp2_with (go_at_call 117; refine (J6q _ _ _ _ _ (HHI.out.ext hxi) HIN.out HLE.out).mono ?_; rintro e w5 ⟨rfl,hx5⟩);go_roundw
              case rel=>exact ⟨n1 - 1,by omega,by go_num,by rw [<- HPOS.out,HPS.out,hbf]; rfl,hxi.trans hx5⟩
              case measure=>simp [intOf]; omega
            | false =>
              have HZ:Hid (n1 = Q3c hh rt rt.length):=by rw [<- HPOS.out,HPS.out,hbf]; rfl
              cases hsm:decide (ml = hh) with
              | true =>
                have hcell6:=hcell;go_wp2_with (first | (go_at_call 117; refine (J6q _ _ _ _ _ (HHI.out.ext hxi) HIN.out HLE.out).mono ?_; rintro e w5 ⟨rfl,hx5⟩; have hcell5:=hx5.cell hcell) | (go_at_call 54; refine (Q8m _ _ _ _ _ (HIN.out.ext hx5) ((HHI.out.ext hxi).ext hx5)).mono ?_; rintro e w6 ⟨rfl,hx6⟩; rw [hsm]))
                go_roundw
                case rel=>exact ⟨m + 1,by omega,by go_num,⟨us,HOU.out.below (hxi.trans (hx5.trans hx6)),by rw [HST.out,J9g HZ.out (by omega) (HML.out.trans (of_decide_eq_true hsm))]; exact HRL.out.ext (hxi.trans (hx5.trans hx6))⟩,HXO.out.trans (hxi.trans (hx5.trans hx6))⟩
                case measure=>simp [intOf]; omega
              | false =>
                have HZ0:Hid (n1 = 0 ∨ rt.getD (n1 - 1) [] ≠ hh):=.inr (by rw [HML.out]; exact of_decide_eq_false hsm)
                go_wp2_with (first | (go_at_call 117; refine (J6q _ _ _ _ _ (HHI.out.ext hxi) HIN.out HLE.out).mono ?_; rintro e w5 ⟨rfl,hx5⟩; have hcell5:=hx5.cell hcell) | (go_at_call 54; refine (Q8m _ _ _ _ _ (HIN.out.ext hx5) ((HHI.out.ext hxi).ext hx5)).mono ?_; rintro e w6 ⟨rfl,hx6⟩; rw [hsm]))
                replace hxi:=hxi.trans (hx5.trans hx6);clear hx5 hx6 hcell hcell5 HIN;obtain ⟨wq,rfl⟩:∃ x,x = w6:=⟨_,rfl⟩;refine Flow.region [.w,.p,.p,.p,.w,.p,.w,.last,.p,.p,.p,.last,.last] [0,1,2,3,4,5,6,7,8,9,10,11,12] [[],[],[],[1,2],[0,1,2,3],[],[5],[0,1,2,3,4,5,6],[],[],[8,9],[0,1,2,3,4,5,6,7,8,9,10],[0,1,2,3,4,5,6,7,8,9,10,11]] [7,11,12]
                 [⟨fun v wz=>X1p wz (v 0) wq.heap.size 22,fun _ _ _ hx h=>h.ext hx⟩,.c 1 (.slice (some ⟨g0,0,none⟩) us.length cc),.c 2 (.int .i64 n1),.c 3 (.slice (some ⟨g0,0,none⟩) n1 cc),⟨fun v wz=>(fun v w'=>Q0t w' wq.heap.size 22 idV (v 4) (us.take n1)) v wz,fun _ _ _ hx h=>Q0t.below h hx⟩,.c 5 ((Value.slice Ah (k + 1) ch)),⟨fun v wz=>Q7a wz (v 6) (Value.slice Ah (k + 1) ch),fun _ _ _ hx h=>h.ext hx⟩,.none,.c 8 (.slice (some ⟨g0,0,none⟩) us.length cc),.c 9 (.int .i64 n1),.c 10 (.slice (if cc = n1 then some ⟨g0,0,none⟩ else some ⟨g0,0 + n1,none⟩) (us.length - n1) (cc - n1)),.none,.none]
                 [fun v w1 w'=>Q0t w' wq.heap.size 22 idV (v 7) (us.take n1 ++ [(Value.slice Ah (k + 1) ch)]) /\ Below wq.heap.size w1 w',fun v w1 w'=>Q0t w' wq.heap.size 22 idV (v 11) (us.take n1 ++ [(Value.slice Ah (k + 1) ch)] ++ us.drop n1) /\ Below wq.heap.size w1 w',fun v w1 w'=>v 12 = v 11 /\ Q0t w' wq.heap.size 22 idV (v 11) (us.take n1 ++ [(Value.slice Ah (k + 1) ch)] ++ us.drop n1) /\ Below wq.heap.size w1 w'] (by kernel_rfl) rfl (by kernel_rfl) ⟨?g0,?g1,?g2,?g3,?g4,?g5,?g6,?g7,?g8,?g9,?g10,?g11,?g12,trivial⟩ ?post
                case g0=>
                 intro v w1 hx;intro K hK;go_simp;exact hK _ _ (Ext.box _ _) (X1p.made _ _ _ hx.size)
                case g1 | g2 | g5 | g8 | g9=>
                 intro v w1 hx;refine ⟨_,fun w=>?_,rfl⟩;go_simp
                case g3 | g10=>
                 intro v w1 hx;(repeat intro (zq:v _ = _));refine ⟨_,fun w=>?_,rfl⟩;go_simp
                case g4=>
                 intro v w1 hx (q0:X1p w1 (v 0) wq.heap.size 22) (q1:v 1 = _) (q2:v 2 = _) (q3:v 3 = _);intro K hK;have l1:(us.take n1).length = n1:=by rw [List.length_take]; omega
                 refine J4t _ _ 72 rfl wq.heap.size 22 i0 (.slice none 0 0) 24 Tryz.underlying72 hi hz0 hz1 hz2 rfl idV (v 0) (v 3) (us.take n1) (by go_simp) q0 (by go_simp) ?_ (fun y hy=>HONE.out y (List.mem_of_mem_take hy)) (by omega) (by decide) hx.size (fun v' w' hown hx2=>hK _ _ hx2 hown)
                 rw [q3];exact ⟨_,_,by rw [l1],fun j hj=>⟨g0,0,rfl,by rw [List.getElem_take]; exact hx.cell (hxi.cell (HCL.out j (by omega)))⟩⟩
                case g6=>
                 intro v w1 hx;(repeat intro (zq:v _ = _));intro K hK;go_simp;exact hK _ _ (Ext.box _ _) (Q7a.made _ _ _)
                case g7=>
                 intro v w1 hx _ (q1:v 1 = _) (q2:v 2 = _) (q3:v 3 = _) (q4:(fun v w'=>Q0t w' wq.heap.size 22 idV (v 4) (us.take n1)) v w1) (q5:v 5 = _) (q6:Q7a w1 (v 6) (Value.slice Ah (k + 1) ch));intro wl hT;obtain rfl:wl = w1:=hT;intro bb hbb;subst hbb;intro K hK;refine Q5k _ _ 72 rfl wq.heap.size 22 i0 (.slice none 0 0) 24 Tryz.underlying72 hi hz0 hz1 hz2 rfl idV (v 4) (v 6) (us.take n1) [(Value.slice Ah (k + 1) ch)] (by go_simp) q4 (by go_simp) (Q7a.src q6) (fun y hy=>by rw [List.mem_singleton] at hy; rw [hy]; exact (show (idV (Value.slice Ah (k + 1) ch)).oneCell' = true from rfl)) (by rw [List.length_take,List.length_singleton]; omega) (by decide) hx.size (fun v' w' hown hg=>hK _ _ ⟨hown,below_grown q4 hg (Nat.le_refl _) hx.size⟩)
                case g11=>
                 intro v w1 hx _ (q1:v 1 = _) (q2:v 2 = _) (q3:v 3 = _) _ (q5:v 5 = _) _ (q8:v 8 = _) (q9:v 9 = _) (q10:v 10 = _);intro wl hT;replace hT:(fun v w1 w'=>Q0t w' wq.heap.size 22 idV (v 7) (us.take n1 ++ [(Value.slice Ah (k + 1) ch)]) /\ Below wq.heap.size w1 w') v w1 wl:=hT;intro bb hbb;subst hbb;obtain ⟨hT1,hT2⟩:=hT;intro K hK;have hsz:wq.heap.size <= wl.heap.size:=Nat.le_trans hx.size hT2.size;have l2:(us.drop n1).length = us.length - n1:=List.length_drop;have hc2:Hid (∀ j (hj:j < us.length),wl.cell? ⟨g0,0 + j,none⟩ = some (idV us[j])):=fun j hj=>(hT2.cell (p:=⟨g0,0 + j,none⟩) (Nat.lt_of_lt_of_le hgl hxi.size)).trans (hx.cell (hxi.cell (HCL.out j hj)));refine Q5k _ _ 72 rfl wq.heap.size 22 i0 (.slice none 0 0) 24 Tryz.underlying72 hi hz0 hz1 hz2 rfl idV (v 7) (v 10) (us.take n1 ++ [(Value.slice Ah (k + 1) ch)]) (us.drop n1) (by go_simp) hT1 (by go_simp) ?_ (fun y hy=>HONE.out y (List.mem_of_mem_drop hy)) (by rw [List.length_append,List.length_take,List.length_singleton]; omega) (by decide) hsz (fun v' w' hown hg=>hK _ _ ⟨hown,hT2.trans (below_grown hT1 hg (Nat.le_refl _) hsz)⟩)
                 rw [q10];exact ⟨_,_,by rw [l2],fun j hj=>⟨g0,0 + n1,by rw [if_neg (by omega)],by rw [List.getElem_drop,Nat.add_assoc]; exact hc2.out (n1 + j) (by omega)⟩⟩
                case g12=>
                 intro v w1 hx _ (q1:v 1 = _) (q2:v 2 = _) (q3:v 3 = _) _ (q5:v 5 = _) _ (q8:v 8 = _) (q9:v 9 = _) (q10:v 10 = _);intro wl hT;replace hT:(fun v w1 w'=>Q0t w' wq.heap.size 22 idV (v 11) (us.take n1 ++ [(Value.slice Ah (k + 1) ch)] ++ us.drop n1) /\ Below wq.heap.size w1 w') v w1 wl:=hT;intro bb hbb;subst hbb;intro K hK;go_simp;exact hK _ _ ⟨rfl,hT⟩
                case post =>
                 intro v w1 hx (q0:X1p w1 (v 0) wq.heap.size 22);(iterate 3 intro (zq:v _ = _));intro (q4:(fun v w'=>Q0t w' wq.heap.size 22 idV (v 4) (us.take n1)) v w1);(iterate 1 intro (zq:v _ = _));intro (q6:Q7a w1 (v 6) (Value.slice Ah (k + 1) ch));(iterate 3 intro (zq:v _ = _));intro w2 hE;replace hE:(fun v w1 w'=>v 12 = v 11 /\ Q0t w' wq.heap.size 22 idV (v 11) (us.take n1 ++ [(Value.slice Ah (k + 1) ch)] ++ us.drop n1) /\ Below wq.heap.size w1 w') v w1 w2:=hE;simp only [Flow.acts,Act.put];go_simp;obtain ⟨_,e2,e3⟩:=hE;have hx9:=J7a hx e3;have hrl9:=RL.insert (HRL.out.ext (hxi.trans hx9)) (HHH.out.below (hxi.trans hx9)) (show n1 <= rt.length by have:=HLU.out; omega)
                 have hown9:=e2.weaken (show W.heap.size <= wq.heap.size from Nat.le_trans hB4 hxi.size)
                 have HST9:Hid (s.X2l k (m + 1) = rt.take n1 ++ [hh] ++ rt.drop n1):=HST.out.trans (J7z HZ.out HZ0.out);have HR9:Hid (RL _ _ _):=hrl9;have hxz:=(HXO.out.trans hxi).trans hx9;clear hrl9 q0 q4 q6 hx e3 hx9;go_wp2
                 all_goals
                  go_roundw
                  case rel=>exact ⟨m + 1,by omega,by go_num,⟨_,hown9,by rw [HST9.out]; exact HR9.out⟩,hxz⟩
                  case measure=>simp [intOf]; omega
     . have hmn:m = n:=by omega
       subst hmn;have hsz:=Y3y s k m;have hsz2:(s.Q7x k).length <= 6 * 8:=Nat.le_trans (Y0h s k) (Nat.mul_le_mul (by omega) (by rw [HN.out]; omega))
       have HSZ:Hid ((s.X2l k m).length <= 2000):=Lib.hid (by omega)
       have HSZ2:Hid ((s.Q7x k).length <= 2000):=Lib.hid (by omega)
       have HSZ3:Hid (W.heap.size <= w2.heap.size):=Lib.hid HXW2.out.size;have hst:s.Q7x (k + 1) = s.Q7x k ++ s.X2l k m:=by rw [<- HN.out]; rfl
       have HST:=Lib.hid hst;have hcells:True:=trivial;clear hsz hsz2 hst;go_wp2_with (refine Q1m (o:=⟨some 74,_,_,_,_,_⟩) rfl ?_; refine J7b (.tmp 72) (.tmp 73) rfl rfl (HO.out.ext HX2.out) rfl HR.out HSZ2.out HSZ.out HSZ3.out ?_; intro v' w9 hown' hb9);have HLL:=Lib.hid hown';have HB9:Hid (Ext W w9):=Below.trans HXW2.out hb9;clear hown' hb9;go_wp2;go_roundw
       case rel=>exact ⟨k + 1,by omega,by go_num,by rw [HST.out]; exact HLL.out,HB9.out⟩
       case measure=>simp [intOf]; omega
  . have hkT:k = T:=by omega
    subst hkT;have he:s.hist = s.Q7x k:=by rw [<- HT.out]; rfl
    have HE:=Lib.hid he;clear he;go_wp2;go_ret;exact ⟨_,rfl,by rw [HE.out]; exact HO.out.weaken HW.out.size,HW.out.trans HXK.out⟩
end Go.Proofs
namespace Go.Proofs
open Go.RowKit Go.Tw Go.Flow
attribute [local go_sem] Oper.semAt_some
def cdN (n k:Nat):Nat:=n / 2 ^ k
def cdB (n k:Nat):Bool:=n.testBit k
theorem J9e (n:Nat):cdN n 0 = n:=by unfold cdN; simp
theorem J8m (s:Q0b) (n:Nat) {k:Nat} (hk:k < s.hist.length):(J4q s n).take (k + 1) = (J4q s n).take k ++ [⟨s.hist.getD k [],cdB n k⟩]:=by
 have hl:k < (J4q s n).length:=by unfold J4q; simpa using hk
 rw [List.take_succ_eq_append_getElem hl]
 congr 2
 unfold J4q;simp [cdB]
theorem J7u (s:Q0b) (n:Nat):(J4q s n).length = s.hist.length:=by unfold J4q; simp
theorem J7h (w:World) (v:Value) (s:Q0b) (n:Nat) (hv:Q0h w v s) (he:s.err = 0) (hn:n < 2 ^ 62) :
    Calls Tryz.prog 36 #[v,.int .i64 (n:Int)] w fun e w'=>∃ x,e = .returned x /\ J9r 115 w w' x (J4q s n) /\ Ext w w':=by
 obtain ⟨i0,hi,hz0,hz1,hz2⟩:=info_parts Tryz.J2k;have hS:=Q0y.of he;have hhl:=Z7m hS;have hhp:=J8e hS;have HV:=Lib.hid hv;have HERR:=Lib.hid he;have h8:Hid (∀ h ∈ s.hist,h.length <= 6):=Z3t hS;obtain ⟨a,b,rfl,-⟩:=hv;have ha:∃ A n c,a = .slice A n c:=by obtain ⟨_,_,e,h2⟩:=HV.out; cases e; obtain ⟨A,c,e,-⟩:=h2.ships.opened; exact ⟨A,_,c,e⟩
 have hb:∃ A n c,b = .slice A n c:=by obtain ⟨_,_,e,h2⟩:=HV.out; cases e; obtain ⟨A,c,e,-⟩:=h2.members.opened; exact ⟨A,_,c,e⟩
 obtain ⟨A1,n1,ca1,rfl⟩:=ha;obtain ⟨A2,n2,ca2,rfl⟩:=hb;have HP:=Lib.hid (J7u s n);have HTK:Hid (∀ k,k < s.hist.length -> (J4q s n).take (k + 1) = (J4q s n).take k ++ [⟨s.hist.getD k [],cdB n k⟩]):=fun k hk=>J8m s n hk;clear hS he;go_enter Tryz.func36,Tryz.ntmps36;go_wp2_with fail;obtain ⟨W,hWW,k0,k1,HXW,eW⟩:=Q4e w 25 #[.int .i64 s.limit,.slice A1 n1 ca1,.slice A2 n2 ca2] 47 #[.slice none 0 0];rw [hWW];clear hWW;have HV1:=Lib.hid (HV.out.ext HXW.out);obtain ⟨gs,hgs⟩:∃ x,w.heap.size = x:=⟨_,rfl⟩;have HGS:=Lib.hid hgs;rw [hgs] at k0 k1 eW ⊢;have K1:=Lib.hid k1;have c0:=k0.cell 0;have c1:=k0.cell 1;have c2:=k0.cell 2;simp only [Go.Tw.gA,Go.Tw.gB,Go.Tw.gC] at c0 c1 c2;clear k0 k1 hgs;go_wp2_with (go_at_call 44; refine (J4s _ _ s HV1.out HERR.out).mono ?_; rintro e wh ⟨xh,rfl,hll,hxh⟩; refine halted ?_);obtain ⟨vs,hoh,hrl⟩:=hll;have hlu:=hrl.1
 rcases hoh.cells2 with ⟨rfl,hve⟩ | ⟨g0,cc,rfl,hcc,hbg,hgl,hcl⟩
 . exfalso
   rw [hve] at hlu;simp at hlu;omega
 obtain ⟨H,hH⟩:∃ x,s.hist.length = x:=⟨_,rfl⟩;rw [hH] at hlu hhl HTK HP;rw [hlu] at hcc;have HLU:=Lib.hid hlu;have HHH:=Lib.hid hH;have HCL:=Lib.hid hcl;have HRL:=Lib.hid hrl;have hxp:=Ext.box wh (.cells #[.slice none 0 0] 47);have hbp:=Blk.made wh 47 #[.slice none 0 0];have hes:(wh.alloc (.cells #[.slice none 0 0] 47)).heap.size = wh.heap.size + 1:=by simp
 rw [hlu];unfold Q1j;go_wp2_with fail;obtain ⟨gp,hgp⟩:∃ x,wh.heap.size = x:=⟨_,rfl⟩;obtain ⟨wp,hwp⟩:∃ X,wh.alloc (.cells #[.slice none 0 0] 47) = X:=⟨_,rfl⟩;rw [hwp,hgp] at hbp hes;rw [hwp] at hxp;rw [hwp,hgp];have HGP:=Lib.hid hgp;have HXH:=Lib.hid hxh;have HXP:=Lib.hid hxp;have hgW:gs + 1 < gp:=by have:=hxh.size; omega
 clear hwp hgp hoh hrl hcl hlu hH hhp hxh c0 c1 c2
 go_loopw [1,7] (fun c i wr=>∃ (k:Nat) (vo:Value) (qs:List (Value × Rul)),k <= H /\ i = .int .i64 k /\ c = .int .i64 (cdN n k:Nat) /\ Blk wr gp 47 #[vo] /\ Q1d wr (gp + 1) 115 2 Z3h vo qs /\ qs.map (·.2) = (J4q s n).take k /\ RuR wr qs /\ Ext wh wr /\ gp + 1 <= wr.heap.size) (fun _ i _=>H - (intOf i).toNat)
 case atStart=>exact ⟨0,_,[],Nat.zero_le _,rfl,by rw [J9e],hbp,Q1d.nil _ _ _ _ _,rfl,(fun q hq=>by simp at hq),HXP.out,by omega⟩
 case round =>
  obtain ⟨k,vo,qs,hk,rfl,rfl,hbo,hown,hqs,hru,hxr,hsz⟩:=hrel;have hqk:qs.length = k:=by rw [<- List.length_map (f:=(·.2)),hqs,List.length_take,HP.out]; omega
  have HQS:=Lib.hid hqs;have HRU:=Lib.hid hru;have HBO:=Lib.hid hbo;have HOW:=Lib.hid hown;have HXR:=Lib.hid hxr
  by_cases hlt:k < H
  . have hkI:(k:Int) < H:=by omega
    have hek:=hxr.cell (HCL.out k (by rw [HLU.out]; exact hlt))
    rw [Nat.zero_add] at hek;have hok:=HRL.out.2 k (by rw [HHH.out]; exact hlt)
    rw [Q0v _ (show k < vs.length by rw [HLU.out]; exact hlt)] at hok
    obtain ⟨hv1,hhv⟩:∃ x,vs[k]'(by rw [HLU.out]; exact hlt) = x:=⟨_,rfl⟩
    have hek:wr.cell? ⟨g0,k,none⟩ = some (vs[k]'(by rw [HLU.out]; exact hlt)):=hek
    rw [hhv] at hek hok;obtain ⟨X,capx,rfl,hcx⟩:=hok.shape;have htk:=HTK.out k hlt;have hl6:(s.hist.getD k []).length <= 6:=by rw [Q0v _ (by rw [HHH.out]; exact hlt)]; exact h8.out _ (List.getElem_mem _)
    obtain ⟨l,hl⟩:∃ x,s.hist.getD k [] = x:=⟨_,rfl⟩;rw [hl] at hek hok htk hl6;have HEK:=Lib.hid hek;have HTK1:=Lib.hid htk;have HOK:=Lib.hid (hok.below hxr);have hcb:((cdN n k:Nat):Int).tmod 2 = 1 ↔ cdB n k = true:=by
     have:=Z8h n k;unfold cdN cdB;rw [<- this]; simp
    have hcb2:(((cdN n k:Nat):Int).tmod 2 == 1) = cdB n k:=Z8h n k;have hch:((cdN n k:Nat):Int).tdiv 2 = ((cdN n (k + 1):Nat):Int):=Z4b n k;have hnk:cdN n k <= n:=Nat.div_le_self _ _;have hnk1:cdN n (k + 1) <= n:=Nat.div_le_self _ _;obtain ⟨c,hc⟩:∃ x,cdN n k = x:=⟨_,rfl⟩;obtain ⟨c2,hc2⟩:∃ x,cdN n (k + 1) = x:=⟨_,rfl⟩;obtain ⟨q,hq⟩:∃ x,cdB n k = x:=⟨_,rfl⟩;rw [hc] at hcb2 hch hnk ⊢;rw [hc2] at hch hnk1;rw [hq] at hcb2 HTK1;have hcb3:((c:Int) % 2 == 1) = q:=by rw [<- hcb2,Int.tmod_eq_emod_of_nonneg (by omega)]
    have HC2:=Lib.hid hc2;have HCB:=Lib.hid hcb2;have HCB3:=Lib.hid hcb3;have HWC:Hid (wrap64 (c2:Int) = c2):=Lib.hid (by unfold wrap64; omega)
    obtain ⟨wq,rfl⟩:∃ Z,Z = wr:=⟨_,rfl⟩;have hdr:=(Ext.refl wq).drew;clear hbo hown hqs hru hxr hek hok htk hl hhv hc hq hcb hc2 hcb2 hcb3;go_wp2_with fail;refine Flow.Q5l [.p,.w,.p,.p,.p,.w,.p,.p,.p,.p,.w,.last,.last,.last] [0,1,2,3,4,5,6,7,8,9,10,11,12,13] [[],[0],[],[],[2,3],[2,3,4],[],[6],[6,7],[2,3,4,5,6,7,8],[2,3,4,5,6,7,8,9],[0,1,2,3,4,5,6,7,8,9,10],[0,1,2,3,4,5,6,7,8,9,10,11],[0,1,2,3,4,5,6,7,8,9,10,11,12]] [11,12,13]
     [.c 0 (.pointer (some ⟨gp,0,none⟩)),.c 1 (vo),.c 2 (.slice (some ⟨g0,0,none⟩) H cc),.c 3 (.int .i64 (k:Int)),.c 4 (.pointer (some ⟨g0,k,none⟩)),.c 5 (.slice X l.length capx),.c 6 (.int .i64 (c:Int)),.c 7 (.int .i64 ((c:Int).tmod 2)),.c 8 (.bool q),⟨fun v wz=>(fun v w'=>v 9 = .agg #[.slice X l.length capx,.bool q]) v wz,by intro _ _ _ _ h; exact h⟩,⟨fun v wz=>(fun v w'=>∃ g,v 10 = .slice (some ⟨g,0,none⟩) 1 1 /\ Blk w' g 115 (Z3h (.slice X l.length capx,⟨l,q⟩)).toArray) v wz,by rintro v a b hx ⟨g,h1,h2⟩; exact ⟨g,h1,h2.ext hx⟩⟩,.none,.none,.none]
     [fun v w1 w'=>Q1d w' (gp + 1) 115 2 Z3h (v 11) (qs ++ [(.slice X l.length capx,⟨l,q⟩)]) /\ w1.grownBy w' vo.ownBlock,fun v w1 w'=>v 12 = .pointer (some ⟨gp,0,none⟩) /\ Q1d w' (gp + 1) 115 2 Z3h (v 11) (qs ++ [(.slice X l.length capx,⟨l,q⟩)]) /\ w1.grownBy w' vo.ownBlock,fun v w1 w'=>∃ x wm,Q1d wm (gp + 1) 115 2 Z3h x (qs ++ [(.slice X l.length capx,⟨l,q⟩)]) /\ w1.grownBy wm vo.ownBlock /\ w' = wm.setCell ⟨gp,0,none⟩ x] (by kernel_rfl) rfl (by kernel_rfl) ⟨?g0,?g1,?g2,?g3,?g4,?g5,?g6,?g7,?g8,?g9,?g10,?g11,?g12,?g13,trivial⟩ ?post
    case g0 | g2 | g3 | g6=>
     intro v w1 hx;intro bb hbb;subst hbb;refine ⟨_,fun w=>?_,rfl⟩;go_simp
    case g1 | g5=>
     intro v w1 hx;(repeat intro (zq:v _ = _));intro bb hbb;subst hbb;have n0:w1.cell? ⟨gp,0,none⟩ = some vo:=(HBO.out.ext (hdr.trans hx)).cell 0;have n1:w1.cell? ⟨g0,k,none⟩ = some (.slice X l.length capx):=(hdr.trans hx).cell HEK.out;intro K hK;go_simp;exact hK _ _ (Ext.refl _) rfl
    case g4 | g7=>
     intro v w1 hx;(repeat intro (zq:v _ = _));intro bb hbb;subst hbb;refine ⟨_,fun w=>?_,rfl⟩;go_simp
    case g8=>
     intro v w1 hx;(repeat intro (zq:v _ = _));intro bb hbb;subst hbb;refine ⟨.bool q,fun w=>?_,rfl⟩;go_simp
     (first | exact HCB.out | (rw [HCB.out]) | (rw [HCB3.out]))
    case g9=>
     intro v w1 hx;(repeat intro (zq:v _ = _));intro bb hbb;have o1:bb.eval (.tmp 21) = .slice X l.length capx:=by rw [hbb]; dsimp only; (try simp (discharger:=decide) only [eval_put_ne]); rw [Q0a (by simp only [size_put]; exact (by decide:21 < 32))]; assumption
     have o2:bb.eval (.tmp 24) = .bool q:=by rw [hbb]; dsimp only; (try simp (discharger:=decide) only [eval_put_ne]); rw [Q0a (by simp only [size_put]; exact (by decide:24 < 32))]; assumption
     exact ⟨_,fun w=>Z0v _ (.tmp 21) (.tmp 24) rfl o1 o2 (fun w=>J7r w _ _ _ _),rfl⟩
    case g10=>
     intro v w1 hx (q2:v 2 = _) (q3:v 3 = _) (q4:v 4 = _) (q5:v 5 = _) (q6:v 6 = _) (q7:v 7 = _) (q8:v 8 = _) (q9:(fun v w'=>v 9 = .agg #[.slice X l.length capx,.bool q]) v w1);intro bb hbb;intro K hK;have o1:bb.eval (.tmp 25) = .agg #[.slice X l.length capx,.bool q]:=by rw [hbb]; dsimp only; (try simp (discharger:=decide) only [eval_put_ne]); rw [Q0a (by simp only [size_put]; exact (by decide:25 < 32))]; exact q9
     exact Q4u 45 115 (.tmp 25) rfl o1 (J8v w1 _ _ _ _) (hK _ _ (Ext.box _ _) ⟨_,rfl,Blk.made _ _ _⟩)
    case g11=>
     intro v w1 hx (q0:v 0 = _) (q1:v 1 = _) (q2:v 2 = _) (q3:v 3 = _) (q4:v 4 = _) (q5:v 5 = _) (q6:v 6 = _) (q7:v 7 = _) (q8:v 8 = _) _ (q10:(fun v w'=>∃ g,v 10 = .slice (some ⟨g,0,none⟩) 1 1 /\ Blk w' g 115 (Z3h (.slice X l.length capx,⟨l,q⟩)).toArray) v w1);intro wl hT;obtain rfl:wl = w1:=hT;intro bb hbb;intro K hK;obtain ⟨g,hg10,hb10⟩:=q10;have o1:bb.eval (.tmp 17) = vo:=by rw [hbb]; dsimp only; (try simp (discharger:=decide) only [eval_put_ne]); rw [Q0a (by simp only [size_put]; exact (by decide:17 < 32))]; exact q1
     have o2:bb.eval (.tmp 26) = .slice (some ⟨g,0,none⟩) 1 1:=by rw [hbb]; dsimp only; (try simp (discharger:=decide) only [eval_put_ne]); rw [Q0a (by simp only [size_put]; exact (by decide:26 < 32))]; exact hg10
     have hxx:=hdr.trans hx;exact Q2x _ _ 45 rfl (gp + 1) 115 i0 (.agg #[.slice none 0 0,.bool false]) 2 32 Tryz.underlying45 hi hz0 hz1 hz2 rfl (by decide) Z3h X6a vo _ (.slice X l.length capx,⟨l,q⟩) o1 (HOW.out.below hxx) ⟨g,0,none⟩ 1 o2 (Q6g hb10) (J9i (q:=(.slice X l.length capx,⟨l,q⟩)) HOK.out) (by omega) (by decide) (by have:=hxx.size; omega) (fun v' w' h1 h2=>hK _ _ ⟨h1,h2⟩)
    case g12=>
     intro v w1 hx (q0:v 0 = _) (q1:v 1 = _) (q2:v 2 = _) (q3:v 3 = _) (q4:v 4 = _) (q5:v 5 = _) (q6:v 6 = _) (q7:v 7 = _) (q8:v 8 = _) _ _;intro wl hT;replace hT:(fun v w1 w'=>Q1d w' (gp + 1) 115 2 Z3h (v 11) (qs ++ [(.slice X l.length capx,⟨l,q⟩)]) /\ w1.grownBy w' vo.ownBlock) v w1 wl:=hT;intro bb hbb;subst hbb;intro K hK;go_simp;exact hK _ _ ⟨rfl,hT⟩
    case g13=>
     intro v w1 hx (q0:v 0 = _) (q1:v 1 = _) (q2:v 2 = _) (q3:v 3 = _) (q4:v 4 = _) (q5:v 5 = _) (q6:v 6 = _) (q7:v 7 = _) (q8:v 8 = _) _ _;intro wl hT;replace hT:(fun v w1 w'=>v 12 = .pointer (some ⟨gp,0,none⟩) /\ Q1d w' (gp + 1) 115 2 Z3h (v 11) (qs ++ [(.slice X l.length capx,⟨l,q⟩)]) /\ w1.grownBy w' vo.ownBlock) v w1 wl:=hT;intro bb hbb;intro K hK;obtain ⟨hT0,hT1,hT2⟩:=hT;have hxx:=hdr.trans hx;obtain ⟨bp,cp,hsh,_⟩:=hT1.shape;have o1:bb.eval (.tmp 28) = .pointer (some ⟨gp,0,none⟩):=by rw [hbb]; dsimp only; (try simp (discharger:=decide) only [eval_put_ne]); rw [Q0a (by simp only [size_put]; exact (by decide:28 < 32))]; exact hT0
     have o2:bb.eval (.tmp 27) = v 11:=by rw [hbb]; dsimp only; (try simp (discharger:=decide) only [eval_put_ne]); rw [Q0a (by simp only [size_put]; exact (by decide:27 < 32))]
     have hbl:=Go.Tw.Q9q (HBO.out.ext hxx) (HOW.out.below hxx) (by omega) hT2
     exact Q5b _ _ rfl Tryz.J9n (g:=gp) (k:=0) o1 o2 (by rw [hsh]; rfl) (by rw [hsh]; rfl) hbl (by show 0 < 1; omega) (fun v'=>hK _ _ ⟨v 11,wl,hT1,hT2,rfl⟩)
    case post =>
     intro v w1 hx;(iterate 9 intro (zq:v _ = _));intro (q9:(fun v w'=>v 9 = .agg #[.slice X l.length capx,.bool q]) v w1) (q10:(fun v w'=>∃ g,v 10 = .slice (some ⟨g,0,none⟩) 1 1 /\ Blk w' g 115 (Z3h (.slice X l.length capx,⟨l,q⟩)).toArray) v w1);intro w2 hE;replace hE:(fun v w1 w'=>∃ x wm,Q1d wm (gp + 1) 115 2 Z3h x (qs ++ [(.slice X l.length capx,⟨l,q⟩)]) /\ w1.grownBy wm vo.ownBlock /\ w' = wm.setCell ⟨gp,0,none⟩ x) v w1 w2:=hE;simp only [Flow.acts,Act.put];go_simp;obtain ⟨x,wm,hom,hgm,rfl⟩:=hE;have hxx:=hdr.trans hx;have howx:=HOW.out.below hxx;have hbm:=Go.Tw.Q9q (HBO.out.ext hxx) howx (by omega) hgm
     have HO6:=Lib.hid (hom.Y2t (p:=⟨gp,0,none⟩) (Nat.lt_succ_self gp) x);have HB6:=Lib.hid (hbm.set 0 x);have hxm:Ext wh wm:=Below.grown (HXR.out.trans hxx) hgm (by have:=(HXR.out.trans hxx).size; omega) (fun j hj=>by have:=(howx.lt j hj).1; have:=HGP.out; omega)
     have HX6:=Lib.hid (hxm.Z0e (p:=⟨gp,0,none⟩) (by show wh.heap.size <= gp; rw [HGP.out]; exact Nat.le_refl _) x)
     have HR6:=Lib.hid ((((HRU.out.ext hxx).snoc (q:=(.slice X l.length capx,⟨l,q⟩)) (HOK.out.below hxx)).grown howx (by decide) hgm).set (k:=0) (u:=x) hbm (by decide))
     have HS6:Hid (gp + 1 <= (wm.setCell ⟨gp,0,none⟩ x).heap.size):=Lib.hid (by have:=hbm.lt; simp; omega)
     obtain ⟨w6,hw6⟩:∃ y,wm.setCell ⟨gp,0,none⟩ x = y:=⟨_,rfl⟩;rw [hw6] at HO6 HB6 HX6 HR6 HS6 ⊢;clear hnk hnk1 hn hw6 hom hgm hxx hx hbm hxm howx hdr q9 q10;(repeat clear zq);go_wp2;go_roundw
     case rel=>exact ⟨k + 1,x,qs ++ [(.slice X l.length capx,⟨l,q⟩)],by omega,by go_num,by first | rw [HC2.out,HWC.out] | rw [HC2.out],HB6.out,HO6.out,by rw [List.map_append,HQS.out,HTK1.out]; rfl,HR6.out,HX6.out,HS6.out⟩
     case measure=>simp [intOf]; omega
  . have hkI:¬ (k:Int) < H:=by omega
    have hkn:k = H:=by omega
    subst hkn;have hp:(J4q s n).take k = J4q s n:=by rw [List.take_of_length_le (by rw [HP.out]; omega)]
    obtain ⟨Av,cv',rfl,-⟩:=hown.shape;rw [hqk] at hown hbo;have HOWN:=Lib.hid hown;have HQK:=Lib.hid hqk;have c0:wr.cell? ⟨gp,0,none⟩ = _:=hbo.cell 0;simp only [Go.Tw.gA,Go.Tw.gB] at c0;have hk1:=(K1.out.ext HXH.out).ext hxr;have c1:wr.cell? ⟨gs + 1,0,none⟩ = some (.slice none 0 0):=hk1.cell 0;have f1:=hk1.frozen 0;have HK1:=Lib.hid hk1;have hxa:Ext w wr:=(HXW.out.trans HXH.out).trans hxr;have HXA:=Lib.hid hxa;rw [hp] at hqs;have HQA:=Lib.hid hqs;clear hbo hown hqs hru hxr hk1 hxa hp;go_wp2;refine bodyPost_ret (Q2d Tryz.results36 rfl (HK1.out.set 0 _) Tryz.J2n Tryz.J0b) rfl ?_;refine ⟨_,rfl,⟨_,qs,rfl,?_,HQA.out,HRU.out.set HK1.out (by decide)⟩,HXA.out.Z0e (p:=⟨gs + 1,0,none⟩) (by show w.heap.size <= gs + 1; have:=HGS.out; omega) _⟩
    have h:=J8a (HOWN.out.Y2t (p:=⟨gs + 1,0,none⟩) (by show gs + 1 < gp + 1; omega) (.slice Av k cv')) (show w.heap.size <= gp + 1 by have:=HGS.out; omega)
    have he:=HQK.out;subst he;exact h
end Go.Proofs
