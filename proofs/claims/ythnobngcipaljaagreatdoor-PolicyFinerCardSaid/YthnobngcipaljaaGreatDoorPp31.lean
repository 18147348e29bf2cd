/- Contract: groups (of the program): the groups of a valid season and the sum of their weights. Contract: Refuse (of the program). strings.Builder: what it holds while others come into being; WriteString (its laying is taken out of that of strings.Join), String. The parts of a string between a byte; strings.Cut and strings.Split in these words. Plain law. A policy and its text: what both sides read and print; what is printed is read as it was, what is read is printed as it was. Plain law. -/
import Derived.Test.YthnobngcipaljaaGreatDoorPp16
import Derived.OwnWalk
import Derived.OwnWalkIn
import Derived.Test.YthnobngcipaljaaGreatDoorPp12
import Derived.Test.YthnobngcipaljaaGreatDoorPp11
import Derived.Test.YthnobngcipaljaaGreatDoorPp03
import Derived.Shelf.Strings.Builder1
import Derived.Shelf.Strings.Builder2
import Derived.Lib.Split
import Derived.Lib.SplitLaws
import Derived.Lib.CutLaws
import Derived.Lib.IndexMore
import Derived.Test.YthnobngcipaljaaGreatDoorPp04
set_option maxRecDepth 1000000
set_option maxHeartbeats 64000000
set_option linter.unusedVariables false
set_option linter.unusedSimpArgs false
set_option linter.constructorNameAsVariable false
open Go.Lib (hid)
namespace Go.Proofs
open Go.RowKit Go.Tw Go.Flow
attribute [local go_sem] Oper.semAt_some
theorem Tryz.Z9p:(Tryz.prog.info? 64).map (fun i=>(i.zero,i.size,i.bytes))=some (some (.agg #[.slice none 0 0,.int .i64 0]),2,32):=by kernel_rfl
theorem Tryz.J0t (w:World):(sizeOf 64).run Tryz.prog w=.ok 2 w:=by kernel_rfl
theorem Tryz.Z8f (w:World):(sizeOf 69).run Tryz.prog w=.ok 5 w:=by kernel_rfl
theorem Y3i {P:Program} {ops:Array Oper} {Q:Exit -> Act -> World -> Prop} {rest:List Oper} {a:Act} {w:World} {T ty:TypeId} {p x:Operand} {pos} {after} (h:wpList P ops Q (⟨none,.store T p x,ty,pos,after,none⟩ :: rest) a w):wpList P ops Q (⟨none,.store T p x,ty,pos,after,none⟩ :: rest) a w:=h
theorem Z4s {a:ByteArray} {b:Int} {X Y Z:Option Addr} {l m n c d e:Nat}:∀ u ∈ (#[Value.string a,.int .i64 b,.slice X l c,.slice Y m d,.slice Z n e]:Array Value).toList,u.oneCell'=true:=by
 intro u hu;simp only [List.mem_cons,List.not_mem_nil,or_false] at hu
 rcases hu with rfl | rfl | rfl | rfl | rfl <;> rfl
theorem Y2f {w w':World} {base n size B:Nat} {e:TypeId} {v:Value} {xs:List Value} {o:Obj} (hown:w.ownsRow base e size v n xs) (hg:(w.alloc o).grownBy w' v.ownBlock) (hb:B <= base) (hB:B <= w.heap.size):Below B w w' :=
 Below.grown ((Below.refl B w).alloc hB o) hg (by simp; omega) (fun k hk=>Nat.le_trans hb (hown.lt k hk).1)
theorem Z6z {s:Q0b} {k n:Nat} (hn:s.members.length=n) (hk:k < n):∃ h0 tl,Q9e s k=h0 :: tl /\ Z0m (Y1p s) k=(h0 == k):=by
 have hm:k ∈ Q9e s k:=List.mem_filter.2 ⟨List.mem_range.2 (by omega),by simp⟩
 obtain ⟨h0,tl,he⟩:∃ h0 tl,Q9e s k=h0 :: tl:=by
  cases h:Q9e s k with
  | nil=>rw [h] at hm; cases hm
  | cons a b=>exact ⟨a,b,rfl⟩
 refine ⟨h0,tl,he,?_⟩;have h:=X8v (f:=Y1p s) (k:=s.members.length) (i:=k) (by omega)
 rw [<- X1m,he] at h;rw [<- h]; rfl
theorem Z4o {X:Option Addr} {l c:Nat} {i:Int}:∀ u ∈ (#[Value.slice X l c,.int .i64 i]:Array Value).toList,u.oneCell'=true:=by
 intro u hu;simp only [List.mem_cons,List.not_mem_nil,or_false] at hu
 rcases hu with rfl | rfl <;> rfl
theorem GrR.grown {w w':World} {base n size:Nat} {e:TypeId} {cv:Value} {xs:List Value} {gl:List (Value × Grp)} (h:GrR w gl) (hown:w.ownsRow base e size cv n xs) (he:e ≠ 3) (hg:w.grownBy w' cv.ownBlock):GrR w' gl:=fun q hq=>Q3d (h q hq) hown he hg
theorem Y9s {w w':World} {g:Nat} {T:TypeId} {cs:Array Value} {row:Option Nat} {o:Obj} (hb:Blk w g T cs) (hne:∀ b,row=some b -> b ≠ g) (hg:(w.alloc o).grownBy w' row):Blk w' g T cs:=by
 have hl:=hb.lt;have h1:=hg.block g (by simp; omega) (by intro e; exact hne g (by first | exact e | exact e.symm) rfl)
 unfold Blk at hb ⊢;rw [h1,Below.heap_alloc w o g hl]; exact hb
theorem _root_.Go.Flow.Turns.J2g {α:Type} {B b k:Nat} {A A':World} (h:Turns B A A') {T:TypeId} {enc:α -> List Value} {v:Value} {l:List α} (ho:Q0z A b T k enc v l):Q0z A' b T k enc v l:=by
 obtain ⟨h1,h2⟩:=ho;refine ⟨h1,?_⟩
 rcases h2 with h2 | ⟨g,cap,cur,hv,hbg,hgl,r⟩
 . exact .inl h2
 . exact .inr ⟨g,cap,cur,hv,hbg,h.cells hgl rfl,r⟩
theorem Y5g (s:Q0b):(Q5b s).length <= s.members.length:=by
 rw [X2a,List.length_map]; exact Q8x _ _
theorem Y3q (s:Q0b):∀ g ∈ Q5b s,g.members.length <= s.members.length:=by
 intro g hg;rw [X2a] at hg;obtain ⟨i,_,rfl⟩:=List.mem_map.1 hg;show ((Q4r _ _ _).map _).length <= _;rw [List.length_map];have h1:(Q4r (Y1p s) s.members.length i).length <= (List.range s.members.length).length:=List.length_filter_le ..;rw [List.length_range] at h1; exact h1
theorem Z3j {w:World} {B:Nat} {v:Value} {gl:List (Value × Grp)} (h:Q0z w B 64 2 Y0p v gl) (hr:GrR w gl) (hl:gl.length <= 1000) (hm:∀ q ∈ gl,q.2.members.length <= 1000):Q4j w v (gl.map (·.2)):=by
 refine h.rowsOf (by simp) (by simp; omega) Y0z (fun j h1 h2=>?_) (fun c c' x hc h=>?_)
 . have hq:=List.getElem_mem h1
   simp only [List.getElem_map];exact ⟨(hr _ hq).ints (by have:=hm _ hq; omega),rfl⟩
 . exact ⟨by rw [<- hc 0 (by omega)]; exact h.1,by rw [<- hc 1 (by omega)]; exact h.2⟩
structure J1u (s:Q0b) (w0:World) (k:Nat) (vo vs:Value) (Ds:List Nat) (W:World):Prop where
 le:k <= s.members.length
 own:∃ gl:List (Value × Grp),Q0z W w0.heap.size 64 2 Y0p vo gl /\ gl.map (·.2)=Q5a s k /\ GrR W gl
 sum:vs=.int .i64 ((Q5a s k).map Grp.weight).sum
 marked:Marked W Ds
 low:∀ D,D ∈ Ds -> w0.heap.size <= D
 ext:Ext w0 W
theorem Y4t (w:World) (v:Value) (s:Q0b) (hv:Q0h w v s) (hvs:Q1b s) :
    Calls Tryz.prog 110 #[v] w fun e w'=>∃ x,e=.returned (.tuple #[x,.int .i64 (Y7i s)]) /\ Q4j w' x (Q5b s) /\ Ext w w':=by
 obtain ⟨i0,hi,hz0,hz1,hz2⟩:=info_parts Tryz.info3;obtain ⟨a,b,rfl,h2⟩:=hv;obtain ⟨A,capa,rfl,-,-,-⟩:=h2.ships.opened;obtain ⟨B,capb,rfl,-,-,-⟩:=h2.members.opened;have H2:=hid h2;have HV:=hid hvs;clear h2 hvs;refine (callsIn_wide (n:=9)).1 ?_;refine callsIn_of_wp_marks Tryz.func110 rfl trivial ?_ rfl;simp only [Tryz.ntmps110,List.size_toArray,List.length_cons,List.length_nil,Nat.reduceAdd,Nat.reduceSub,Array.replicate_succ,Array.replicate_zero,List.push_toArray,List.append_toArray,List.nil_append,List.cons_append]
 gi_wp2_with fail
 obtain ⟨W,hWW,k0,HXW,eW⟩:=Q1t w 34 #[.int .i64 s.limit,.slice A s.ships.length capa,.slice B s.members.length capb];rw [hWW];clear hWW;obtain ⟨gs,hgs⟩:∃ x,w.heap.size=x:=⟨_,rfl⟩;have HGS:=hid hgs;rw [hgs] at k0 eW ⊢;obtain ⟨w0,rfl⟩:∃ X,X=W:=⟨_,rfl⟩;have KS:=hid k0;have HS2:=hid (H2.out.ext HXW.out);have HSZ0:Hid (w0.heap.size=gs + 1):=hid eW;clear k0 hgs eW;obtain ⟨n,hn⟩:∃ n,s.members.length=n:=⟨_,rfl⟩;have HN:Hid (s.members.length=n):=hid hn;rw [hn] at KS ⊢;obtain ⟨T,hT⟩:∃ n,s.ships.length=n:=⟨_,rfl⟩;have HT:Hid (s.ships.length=T):=hid hT;rw [hT] at KS ⊢;have hn8:n <= 8:=by have:=HV.out.some; omega
 have hT6:T <= 6:=by have:=HV.out.tides; omega
 clear hn hT H2;refine X5m 19 n 0 [4,5,6,7,8,9,10,11,19,20,21,22,23,24,25,26,27,28,29,30,31,32,33,34,35,36,37,38,39,40,41,42,43,44,45,46,47,48,49,80,81,82,83,84,85,86,87,88] [] (fun k a Ds W1=>a.tmps.getD 19 undef=.int .i64 k /\ J1u s w0 k (a.tmps.getD 4 undef) (a.tmps.getD 5 undef) Ds W1) (fun k a Ds w h=>by rw [h.1]; rfl) rfl (by kernel_rfl)
  ⟨rfl,⟨Nat.zero_le _,⟨[],Q0z.nil _ _ _ _ _,rfl,GrR.nil _⟩,rfl,Marked.nil _,(fun D h=>absurd h List.not_mem_nil),Ext.refl _⟩⟩ ?round
 rintro k u Ds wA ⟨h19,hG⟩ K hK;simp only [X2w,List.foldl_cons,List.foldl_nil,List.setIfInBounds_toArray,List.set_cons_succ,List.set_cons_zero] at h19 hG ⊢;replace h19:u 19=.int .i64 k:=h19;replace hG:J1u s w0 k (u 4) (u 5) Ds wA:=hG;rw [h19];have hu5:=hG.sum;rw [hu5];have HG:=hid hG;have HK:=hid hK;obtain ⟨vo,hvo⟩:∃ x,u 4=x:=⟨_,rfl⟩;rw [hvo] at HG ⊢;have hk:k <= n:=by have:=hG.le; rw [HN.out] at this; exact this
 clear h19 hG hK hu5 hvo
 by_cases hlt:k < n
 . have hkI:(k:Int) < n:=by omega
   refine wpIn_wide.2 ?_;have hx0:=HG.out.ext;have hks:=KS.out.ext hx0;have hs2:=HS2.out.ext hx0;obtain ⟨bm,off,capx,capy,capz,X,Y,Z,hme⟩:=Q2l hs2.members (k:=k) (by rw [HN.out]; exact hlt)
   have hA:=hme.addr;subst hA;have HME:=hid hme;have e0:=hme.e0;have e1:=hme.e1;have e2:=hme.e2;have e3:=hme.e3;have e4:=hme.e4;obtain ⟨nm,hnm⟩:∃ x,Q1h s.members k=x:=⟨_,rfl⟩;obtain ⟨wt,hwt⟩:∃ x,Q0i s.members k=x:=⟨_,rfl⟩;obtain ⟨lc,hlc⟩:∃ x,(Q0c s.members k).length=x:=⟨_,rfl⟩;obtain ⟨lo,hlo⟩:∃ x,(Q0t s.members k).length=x:=⟨_,rfl⟩;obtain ⟨li,hli⟩:∃ x,(Q0y s.members k).length=x:=⟨_,rfl⟩;have HX2:=hid hme.x;rw [hnm] at e0;rw [hwt] at e1;rw [hlc] at e2 HX2;rw [hlo] at e3;rw [hli] at e4;have c2:wA.cell? ⟨gs,2,none⟩=some (.slice (some ⟨bm,off,none⟩) n capb):=hks.cell 2;have HKS:=hid hks;have HS2r:=hid hs2;clear hx0 hks hs2 hme hnm hwt hlc hlo hli;go_wp2_with (with_reducible (refine Y3i ?_); refine Q0s rfl _ _ _ rfl Tryz.Z8f rfl rfl (Blk.made _ _ _) rfl rfl Z4s ?_; intro w3 hb3 hl3 ho3; refine halted ?_);obtain ⟨gm,hgm⟩:∃ x,wA.heap.size=x:=⟨_,rfl⟩;have HGM:=hid hgm;have hx3:Ext wA w3:=Below.trans (Ext.box wA _) (hl3 _ (Nat.le_refl _));have hgb3:gm < w3.heap.size:=by have:=(hl3 _ (Nat.le_refl _)).size; simp at this; omega
   rw [hgm] at hb3 ⊢;have HB3:=hid hb3;have HX3:=hid hx3;have HGB3:=hid hgb3;have c2b:(w3.alloc (.cells #[.slice none 0 0] 22)).cell? ⟨gs,2,none⟩=some (.slice (some ⟨bm,off,none⟩) n capb):=(hx3.trans (Ext.box w3 _)).cell c2;clear hb3 hl3 ho3 hx3 hgm c2 e0 e1 e2 e3 e4 hgb3;unfold Q1i;go_wp2_with fail;obtain ⟨W,hWW,k0,HXW,eW⟩:=Q1t w3 22 #[.slice none 0 0];rw [hWW];clear hWW;obtain ⟨gb,hgb⟩:∃ x,w3.heap.size=x:=⟨_,rfl⟩;have HGB:=hid hgb;have HX4:=hid (HX3.out.trans HXW.out);have hgbm:gm < gb:=by have:=HGB3.out; omega
   rw [hgb] at k0 eW ⊢;obtain ⟨w4,rfl⟩:∃ X,X=W:=⟨_,rfl⟩;have HB4:=hid k0;have HM4:=hid (HB3.out.ext HXW.out);have HSZ4:Hid (w4.heap.size=gb + 1):=hid eW;clear k0 eW hgb HXW HB3 HX3 HGB3 c2b;obtain ⟨cl,hcl⟩:∃ x,Q0c s.members k=x:=⟨_,rfl⟩;have HCL:Hid (Q0c s.members k=cl):=hid hcl;rw [hcl] at HX2;have HLS:=hid (fun j=>X8p s j k);rw [hcl] at HLS;clear hcl
   go_loopw [28] (fun i w5=>∃ (j:Nat) (vm:Value),j <= n /\ i=.int .i64 j /\ Blk w5 gb 22 #[vm] /\ Q0q w5 (gb + 1) 3 (.int .i64) vm (X3k s j k) /\ Below gb w4 w5 /\ gb + 1 <= w5.heap.size) (fun i _=>n - (intOf i).toNat)
   case atStart=>exact ⟨0,_,Nat.zero_le _,rfl,HB4.out,Q0q.nil _ _ _ _,Below.refl _ _,by have:=HSZ4.out; omega⟩
   case round =>
    obtain ⟨j,vm,hj,rfl,hbj,hown,hlow,hszr⟩:=hrel
    by_cases hjn:j < n
    . have hjI:(j:Int) < n:=by omega
      have hxA:Ext wA wr:=Below.trans HX4.out (hlow.mono (by have:=HGM.out; omega))
      have hkb:=HM4.out.below hlow hgbm;have HQ:=hid (Y4r wr gs gm j _ _ s _ _ _ _ _ cl (by rw [HN.out,HT.out]; exact HKS.out.ext hxA) (HS2r.out.ext hxA) hkb (HX2.out.ext hxA) (by rw [HN.out]; exact hjn))
      obtain ⟨q,hq⟩:∃ q,decide (Q0c s.members j=cl)=q:=⟨_,rfl⟩;have hls:=HLS.out j;rw [hq] at HQ hls;have HLJ:=hid hls;have HLO:=hid hlow;have hlen:=X5s s k j;have hll:(X3k s j k).length <= 4096:=by omega
      obtain ⟨w5,rfl⟩:∃ X,X=wr:=⟨_,rfl⟩;clear hq hls hxA hkb hlow hlen;cases q with
      | false =>
        go_wp2_with (go_at_call 169; refine HQ.out.mono ?_; rintro e w6 ⟨rfl,hx6⟩);go_roundw
        case rel=>exact ⟨j + 1,vm,by omega,by go_num,hbj.ext hx6,by rw [HLJ.out]; simpa using hown.below hx6,Below.trans HLO.out (hx6.mono (by omega)),by have:=hx6.size; omega⟩
        case measure=>simp [intOf]; omega
      | true =>
        go_wp2_with (go_at_call 169; refine HQ.out.mono ?_; rintro e w6 ⟨rfl,hx6⟩; refine halted ?_);have hb6:=hbj.ext hx6;have hown6:=hown.below hx6;have hs6:gb + 1 <= w6.heap.size:=by have:=hx6.size; omega
        have c6:w6.cell? ⟨gb,0,none⟩=some vm:=hb6.cell 0;have HB6:=hid hb6;have HX6:=hid hx6;clear hbj hown hb6;unfold Q1i;go_wp2_with ((at_builtin; refine wpList_append_own _ rfl _ _ 22 rfl (gb + 1) 3 i0 (.int .i64 0) 1 8 Tryz.underlying22 hi hz0 hz1 hz2 rfl (by decide) _ _ _ rfl (World.ownsRow.alloc hown6 _) ⟨w6.heap.size,0,none⟩ 1 1 [.int .i64 (j:Int)] rfl rfl ?_ ?_ ?_ ?_ ?_ ?_; exact Q4p _ _ _; (focus (simp [Value.oneCell'])); (focus (unfold maxLen; omega)); (focus omega); (focus (have:=hx6.size; simp at this ⊢; omega)); intro v' w1 hown' hgrow _); refine halted ?_)
        have hbl:Below (gb + 1) w6 w1:=Y2f hown6 hgrow (Nat.le_refl _) hs6;have hb1:=HB6.out.below hbl (by omega)
        have c1':w1.cell? ⟨gb,0,none⟩=some vm:=hb1.cell 0;have f1:=hb1.frozen 0;have HB1:=hid hb1;have HBL:=hid hbl;have HSZ1:Hid (gb + 1 <= w1.heap.size):=hid (by have:=hbl.size; omega)
        have HOW:=hid (show Q0q w1 (gb + 1) 3 (.int .i64) v' (X3k s j k ++ [(j:Int)]) from Q0q.snoc hown')
        clear hgrow hb1 hbl hown' hown6 hx6;obtain ⟨Av,cv',rfl,-⟩:=HOW.out.shape;unfold Q1i;go_wp2;go_roundw
        case rel=>exact ⟨j + 1,_,by omega,by go_num,HB1.out.set 0 _,by rw [show X3k s (j + 1) k=X3k s j k ++ [(j:Int)] from by rw [HLJ.out]; rfl]; have h:=HOW.out; rw [List.length_append] at h; exact h.setCell (p:=⟨gb,0,none⟩) (Nat.lt_succ_self _) _,(Below.trans HLO.out (Below.trans (HX6.out.mono (by omega)) (HBL.out.mono (Nat.le_succ _)))).setCell (p:=⟨gb,0,none⟩) (Nat.le_refl _) _,by have:=HSZ1.out; simp; omega⟩
        case measure=>simp [intOf]; omega
    . have hjI:¬ (j:Int) < n:=by omega
      have hje:j=n:=by omega
      subst hje;obtain ⟨w5,rfl⟩:∃ X,X=wr:=⟨_,rfl⟩;have hxA:Ext wA w5:=Below.trans HX4.out (hlow.mono (by have:=HGM.out; omega))
      have hLI:X3k s j k=X4i s k:=by unfold X3k X4i; rw [X1m,HN.out]
      have hlen:=X5s s k j;rw [hLI] at hown hlen;obtain ⟨h0,tl,hsame,hrep⟩:=Z6z HN.out hlt;have hL0:X4i s k=(h0:Int) :: tl.map Int.ofNat:=by unfold X4i; rw [hsame]; rfl
      have hLp:0 < (X4i s k).length:=by rw [hL0]; simp
      have hix:ix (X4i s k) 0=(h0:Int):=by rw [hL0]; rfl
      have HOW:=hid hown
      rcases hown.cells2 with ⟨_,h⟩ | ⟨gv,cv,rfl,hcapv,hbv,hgv,hcv⟩
      . rw [hL0] at h; cases h
      . have hc0:w5.cell? ⟨gv,0,none⟩=some (.int .i64 (h0:Int)):=by
         have h:=hcv 0 hLp;rw [show (X4i s k)[0]=(h0:Int) from by rw [<- hix,Q4s hLp]] at h
         exact h
        have HCV:=hid hcv;have hbj0:w5.cell? ⟨gb,0,none⟩=some (.slice (some ⟨gv,0,none⟩) (X4i s k).length cv):=hbj.cell 0;have HBJ:=hid hbj;have HXA:=hid hxA;have HLOW:=hid hlow;have HSAME:=hid hsame;have HLEN:=hid hlen;have HL0:=hid hL0;obtain ⟨L,hL⟩:∃ L,X4i s k=L:=⟨_,rfl⟩;have HLL:=hid hL;obtain ⟨N,hN⟩:∃ N,L.length=N:=⟨_,rfl⟩;have HNN:=hid hN;rw [hL] at hbj0 hLp HCV HBJ HOW HLEN HL0;rw [hN] at hbj0 hLp HBJ HOW HLEN;have hLpI:(0:Int) < N:=by omega
        clear hL hN hbj hxA hlow hsame hlen hL0 hcv hix hcapv hbv hLI hown
        by_cases hrk:Z0m (Y1p s) k=true
        . have he:h0=k:=by rw [hrep] at hrk; simpa using hrk
          have hne:((h0:Int) != (k:Int))=false:=by simp [he]
          have HRP:=hid hrk;clear hrk hrep;go_wp2_with (with_reducible (refine Y3i ?_); refine Q0s rfl _ _ _ rfl Tryz.J0t rfl rfl (Blk.made _ _ _) rfl rfl Z4o ?_; intro w7 hb7 hl7 ho7; refine halted ?_);obtain ⟨gg,hgg⟩:∃ x,w5.heap.size=x:=⟨_,rfl⟩;have HGG:=hid hgg;rw [hgg] at hb7 ⊢;have hx7:Ext w5 w7:=Below.trans (Ext.box w5 _) (hl7 _ (Nat.le_refl _));have HX7:=hid hx7;have HXA7:=hid (HXA.out.trans hx7);have HB7:=hid hb7;have HBJ7:=hid (HBJ.out.ext hx7);have c16:w7.cell? ⟨gs,1,none⟩=some (.slice A T capa):=(HKS.out.ext HXA7.out).cell 1;have hgg7:gg < w7.heap.size:=by have:=hb7.lt; omega
          clear hb7 hl7 ho7 hx7 hgg hbj0 hc0 hne;unfold Q1i;go_wp2_with (go_at_call 112; refine (Y0n w7 (T:Int)).mono ?_; rintro e w8 ⟨rfl,hbe,hse,hxe⟩; refine halted ?_);have HB8:=hid (HB7.out.ext hxe);have HX8:=hid (HXA7.out.trans hxe);have HBJ8:=hid (HBJ7.out.ext hxe);obtain ⟨ge,hge⟩:∃ x,w7.heap.size=x:=⟨_,rfl⟩;rw [hge] at hbe hse hgg7 ⊢;have HGGE:=hid hgg7;have HOW8:=hid (HOW.out.below (HX7.out.trans hxe));have HX58:=hid (HX7.out.trans hxe);have hT8:T <= 8:=by omega
          clear hxe c16 hge HB7 HBJ7 HX7 HXA7 HBJ hgg7;unfold Q1i;go_wp2_with fail;obtain ⟨ml,hml⟩:∃ l,Q9e s k=l:=⟨_,rfl⟩;have HML:Hid (Q9e s k=ml):=hid hml;have hLm:L=ml.map Int.ofNat:=by rw [<- HLL.out,<- hml]; rfl
          have hNm:ml.length=N:=by rw [<- HNN.out,hLm,List.length_map]
          have hmem:∀ x ∈ ml,x < j:=fun x hx=>by rw [<- hml] at hx; have:=List.mem_range.1 (List.mem_filter.1 hx).1; rw [HN.out] at this; exact this
          have HMM:=hid hmem;have hml8:ml.length <= 8:=by have:=HLEN.out; omega
          have hgbd:=fun c=>Y4u HV.out (l:=ml) (fun x hx=>by rw [HN.out]; exact hmem x hx) hml8 c
          have HGJ:=hid hgbd;have hkbd:=fun c jj hjj=>X9t HV.out (l:=ml) (fun x hx=>by rw [HN.out]; exact hmem x hx) c jj hjj
          have HKJ:=hid hkbd;have HLM:=hid hLm;have HNM:=hid hNm;clear hml hLm hNm hmem hgbd hkbd HSAME;refine (wpIn_wide (n:=9)).1 ?_;refine Q9s (n:=9) rfl (by omega) (gf:=170) (lb:=#[.pointer (some ⟨ge,0,none⟩)]) rfl trivial (enters_of Tryz.func170 (by kernel_rfl) rfl)
           (X1n _ ge T w8 hT8 hbe) rfl (fun h1 h2=>Eq.trans h2 h1) (fun h=>h.same (by omega)) (fun h ho=>h.own ho)
           (fun c W=>Blk W gg 64 #[.slice (some ⟨gv,0,none⟩) N cv,.int .i64 (Z1e s ml c)] /\ Below gg w8 W /\ Marked W Ds)
           (fun c A B ⟨h1,h2,h3⟩ hx=>⟨h1.ext hx,Below.trans h2 (hx.mono (by have:=h1.lt; omega)),h3.ext hx⟩)
           (fun h ⟨h1,h2,h3⟩=>⟨h.blk h1,Below.trans h2 (h.below (by have:=HGGE.out; omega)),h3.turns (fun D hD=>by have:=HG.out.marked.lt hD; have:=HX8.out.size; omega) h⟩)
           ⟨HB8.out,Below.refl _ _,HG.out.marked.ext HX8.out⟩ ?frm ?assign ?body ?done
          case assign =>
           intro l x W K hK
           gi_wp2
           exact hK
          case done =>
           rintro D W hD ⟨hb,hB,hmw⟩ hDD;have hgw:Z1e s ml (2 ^ T)=(Y6l s k).weight:=by show _=Y0x s (Q9e s k); rw [HML.out]; unfold Y0x Z1e; rw [HT.out]
           rw [hgw] at hb;have hxw:Ext wA W:=Below.trans HX8.out (hB.mono (by have:=HXA.out.size; have:=HGG.out; omega))
           have hwb:0 <= (Y6l s k).weight /\ (Y6l s k).weight <= 8000:=by rw [<- hgw]; exact HGJ.out _
           have hmk2:Marked W (D :: Ds):=hmw.cons hDD fun E hE=>by have:=HG.out.marked.lt hE; have:=HX8.out.size; omega
           have hdl2:∀ E,E ∈ D :: Ds -> w0.heap.size <= E:=fun E hE=>by
            rcases List.mem_cons.1 hE with rfl | hE
            . have:=HX8.out.size; have:=HG.out.ext.size; omega
            . exact HG.out.low E hE
           obtain ⟨gl,ho,hgm,hgr⟩:=HG.out.own;have hvl:Q0q W (gb + 1) 3 (.int .i64) (.slice (some ⟨gv,0,none⟩) N cv) L:=HOW.out.below (Below.trans HX58.out (hB.mono (by have:=HGG.out; omega)))
           have hglen:gl.length <= 8:=by
            have h:=congrArg List.length hgm;rw [List.length_map,Q5a,List.length_map] at h;have:=Q8x (Y1p s) k;omega
           have hsm:=Z7l HV.out k;have hyes:=Y9z (s:=s) (k:=k) HRP.out;have hos:∀ b,vo.ownBlock=some b -> b ≠ gg:=fun b hb e=>by
            have:=(World.ownsRow.lt ho b hb).2;have:=HXA.out.size; have:=HGG.out; omega
           have hown:=ho.below hxw;have hgrW:=hgr.ext hxw;have hx0W:=HG.out.ext.trans hxw;have HY:=hid hyes;have HBG:=hid hb;have HMK2:=hid hmk2;have HDL2:=hid hdl2;have HX0W:=hid hx0W;have HVL:=hid hvl;have HGM9:=hid hgm;have HGR:=hid hgrW;have d0:W.cell? ⟨gg,0,none⟩=some (.slice (some ⟨gv,0,none⟩) N cv):=hb.cell 0;have d1:W.cell? ⟨gg,1,none⟩=some (.int .i64 (Y6l s k).weight):=hb.cell 1;obtain ⟨gw,hgw9⟩:∃ x,(Y6l s k).weight=x:=⟨_,rfl⟩;have HGW:Hid ((Y6l s k).weight=gw):=hid hgw9;rw [hgw9] at d1 hwb HBG;clear hb hB hmw hDD hgw hmk2 hdl2 ho hgr hgrW hvl hyes hgm hgw9;obtain ⟨i0,hi,hz0,hz1,hz2⟩:=info_parts Tryz.Z9p;go_wp2_with ((at_builtin; refine wpList_append_own _ rfl _ _ 60 rfl (w0.heap.size) 64 i0 (.agg #[.slice none 0 0,.int .i64 0]) 2 32 Tryz.underlying60 hi hz0 hz1 hz2 rfl (by decide) _ _ _ rfl (World.ownsRow.alloc hown _) ⟨W.heap.size,0,none⟩ 1 1 [.slice (some ⟨gv,0,none⟩) N cv,.int .i64 gw] rfl rfl ?_ ?_ ?_ ?_ ?_ ?_; exact X9i _ _ _; (focus (simp [Value.oneCell'])); (focus (unfold maxLen; omega)); (focus omega); (focus (have:=hx0W.size; simp at this ⊢; omega)); intro v' w1 hown' hgrow _); refine halted ?_)
           have HBGX:=hid (Y9s HBG.out hos hgrow);have hxg:Ext w0 w1:=Q2w hx0W hown (Nat.le_refl _) hgrow;have hke:KeepsOthers W w1:=(KeepsOthers.alloc W _).trans (KeepsOthers.of_grownBy hgrow (fun j o h1 h2=>by
            rcases hown.2 with ⟨hv0,_⟩ | ⟨g,cap,cur,hv0,_,hg0,_⟩
            . have h1:vo.ownBlock=some j:=h1
              rw [hv0] at h1; cases h1
            . have h1:vo.ownBlock=some j:=h1
              rw [hv0] at h1; cases h1;have:=Below.block (Ext.box W (.cells #[.slice (some ⟨gv,0,none⟩) N cv,.int .i64 gw] 64)) g (Array.getElem?_eq_some_iff.1 hg0).1;rw [this,hg0] at h2; cases h2; rfl))
           have HKE:=hid hke;have HXG:=hid hxg;have HOWG:=hid (show Q0z w1 w0.heap.size 64 2 Y0p v' (gl ++ [(.slice (some ⟨gv,0,none⟩) N cv,Y6l s k)]) from Q0z.snoc (by show w1.ownsRow _ _ _ _ _ (gl.flatMap Y0p ++ [.slice (some ⟨gv,0,none⟩) N cv,.int .i64 (Y6l s k).weight]); rw [HGW.out]; exact hown'))
           have HGRX:=hid (GrR.grown (HGR.out.ext (Ext.box W _)) (World.ownsRow.alloc hown _) (by decide) hgrow)
           have HVLX:=hid (Q3d (HVL.out.weaken (Nat.zero_le _) |>.below (Ext.box W _)) (World.ownsRow.alloc hown _) (by decide) hgrow)
           have d1:w1.cell? ⟨gg,1,none⟩=some (.int .i64 gw):=HBGX.out.cell 1;have hwr9:IntKind.i64.wrap (((Q5a s k).map Grp.weight).sum + gw)=((Q5a s k).map Grp.weight).sum + gw:=Q2v _ (by omega) (by omega)
           obtain ⟨sm,hsm9⟩:∃ x,((Q5a s k).map Grp.weight).sum=x:=⟨_,rfl⟩;have HSM9:=hid hsm9;rw [hsm9] at hwr9 hsm ⊢;clear hown hown' hgrow hxg hke hsm9 d0;unfold Q1i;go_wp2;have HGI:J1u s w0 (k + 1) v' (.int .i64 (sm + gw)) (D :: Ds) w1 :=
            ⟨by rw [HN.out]; omega,⟨gl ++ [(.slice (some ⟨gv,0,none⟩) N cv,Y6l s k)],HOWG.out,by rw [List.map_append,HGM9.out,HY.out]; rfl,HGRX.out.snoc (by show Q0q _ _ _ _ _ (X4i s k); rw [HLL.out]; exact HVLX.out)⟩,
            by rw [HY.out,List.map_append,List.sum_append,HSM9.out]; show Value.int .i64 (sm + gw)=_; simp [HGW.out],HMK2.out.keeps HKE.out,HDL2.out,HXG.out⟩
           exact HK.out _ _ (D :: Ds) hlt (by kernel_rfl) rfl ⟨rfl,HGI⟩
          case body =>
           rintro l c vc W hc ⟨hb,hB,hmw⟩ hvc;have hxw:Ext wA W:=Below.trans HX8.out (hB.mono (by have:=HXA.out.size; have:=HGG.out; omega))
           have hgbW:gb < gg:=by have:=HBJ8.out.lt; have:=HLOW.out.size; have:=HSZ4.out; have:=HGG.out; omega
           have c9:W.cell? ⟨gb,0,none⟩=some (.slice (some ⟨gv,0,none⟩) N cv):=(HBJ8.out.below hB hgbW).cell 0;have HXW:=hid hxw;have HBG:=hid hb;have HBW:=hid hB;have HMW:=hid hmw;have hcll:=X3w c T;obtain ⟨cl9,hcl9⟩:∃ x,Q5u c T=x:=⟨_,rfl⟩;rw [hcl9] at hvc hcll;have HCL9:Hid (Q5u c T=cl9):=hid hcl9;have HVC:=hid hvc;obtain ⟨Ac,cc,rfl,-⟩:=hvc.shape;have HLC:Hid (cl9.length=T):=hid hcll;clear hb hB hmw hvc hcl9 hxw hcll
           gi_wp2
           clear c9
           gi_loopw [53,13] (fun i nn wq=>∃ jj:Nat,jj <= N /\ i=.int .i64 jj /\ nn=.int .i64 (X7i s ml c jj) /\ Ext W wq) (fun i _ _=>N - (intOf i).toNat)
           case atStart=>exact ⟨0,Nat.zero_le _,rfl,rfl,Ext.refl _⟩
           case round =>
            obtain ⟨jj,hjj,rfl,rfl,hxq⟩:=hrel;have hkj:=HKJ.out c jj (by rw [HNM.out]; exact hjj)
            by_cases hjl:jj < N
            . have hjI:(jj:Int) < N:=by omega
              have hjm:jj < ml.length:=by rw [HNM.out]; exact hjl
              have hkb:=HMM.out ml[jj] (List.getElem_mem hjm);have hsuc:=X8b (s:=s) (c:=c) hjm;obtain ⟨kk,hkk⟩:∃ x,ml[jj]=x:=⟨_,rfl⟩;have hcq:wr.cell? ⟨gv,jj,none⟩=some (.int .i64 (kk:Int)):=by
               have h:=HCV.out jj (by rw [HLM.out,List.length_map]; exact hjm)
               rw [Nat.zero_add,show L[jj]'(by rw [HLM.out,List.length_map]; exact hjm)=(kk:Int) from by simp only [HLM.out,List.getElem_map,hkk]; rfl] at h
               have hx56:Ext w5 wr:=Below.trans HX58.out (Below.trans (HBW.out.mono (by have:=HGG.out; omega)) (hxq.mono (by have:=HX58.out.size; have:=HBW.out.size; omega)))
               exact hx56.cell h
              rw [hkk] at hkb hsuc;have hxr:Ext wA wr:=HXW.out.trans hxq;obtain ⟨bm',off',capx',capy',capz',X',Y',Z',hme⟩:=Q2l (HS2r.out.ext hxr).members (k:=kk) (by rw [HN.out]; exact hkb)
              have hA:=hme.addr;injection hA with hA;injection hA with hA1 hA2;subst hA1 hA2;have hwt:=HV.out.weights kk (by rw [HN.out]; exact hkb)
              have HE0:=hid hme.e0;have HE1:=hid hme.e1;have HE2:=hid hme.e2;have HE3:=hid hme.e3;have HE4:=hid hme.e4;have HKE:=hid (fun (w1:World) (hx:Ext wr w1)=>Q8y w1 _ _ (Q2e s kk) s.limit cl9 (hme.mem hx) ((HVC.out.bools (by rw [HLC.out]; omega)).ext (hxq.trans hx)) (by rw [HLC.out]; omega) (by rw [HLC.out]; exact X2q HV.out (by rw [HN.out]; exact hkb) (by rw [HT.out]; exact Nat.le_refl _)))
              obtain ⟨nm',hnm'⟩:∃ x,Q1h s.members kk=x:=⟨_,rfl⟩;obtain ⟨wt',hwt'⟩:∃ x,Q0i s.members kk=x:=⟨_,rfl⟩;obtain ⟨lc',hlc'⟩:∃ x,(Q0c s.members kk).length=x:=⟨_,rfl⟩;obtain ⟨lo',hlo'⟩:∃ x,(Q0t s.members kk).length=x:=⟨_,rfl⟩;obtain ⟨li',hli'⟩:∃ x,(Q0y s.members kk).length=x:=⟨_,rfl⟩;rw [hnm'] at HE0 HKE;rw [hwt'] at HE1 HKE hsuc hwt;rw [hlc'] at HE2 HKE;rw [hlo'] at HE3 HKE;rw [hli'] at HE4 HKE;rw [HT.out,HCL9.out] at hsuc;obtain ⟨kp,hkp⟩:∃ x,(Q2e s kk).keeps s.limit cl9=x:=⟨_,rfl⟩;rw [hkp] at HKE hsuc;obtain ⟨kj,hkj'⟩:∃ x,X7i s ml c jj=x:=⟨_,rfl⟩;rw [hkj'] at hsuc hkj ⊢;have HSUC:=hid hsuc;have HKS9:=hid (HKS.out.ext hxr);have HXQ:=hid hxq;have hdr:=(Ext.refl wr).drew;have hkkI:(kk:Int) < j:=by omega
              have hw9:IntKind.i64.wrap (kj + wt')=kj + wt':=Q2v _ (by omega) (by omega)
              obtain ⟨wx,rfl⟩:∃ X,X=wr:=⟨_,rfl⟩;clear hkk hme hnm' hwt' hlc' hlo' hli' hkp hkj' hsuc hxr hxq
              gi_wp2
              refine Flow.X1e [.p,.w,.p,.p,.w,.p,.w,.p,.w] [0,1,2,3,4,5,6,7,8] [[],[0],[],[1,2],[3],[],[5],[],[4,6,7]]
               [.c 0 (.pointer (some ⟨gs,2,none⟩)),.c 1 (.slice (some ⟨bm,off,none⟩) j capb),.c 2 (.int .i64 (kk:Int)),.c 3 (.pointer (some ⟨bm,off + kk * 5,none⟩)),.c 4 (.agg #[.string nm',.int .i64 wt',.slice X' lc' capx',.slice Y' lo' capy',.slice Z' li' capz']),.c 5 (.pointer (some ⟨gs,0,none⟩)),.c 6 (.int .i64 s.limit),.c 7 (.slice Ac cl9.length cc),.c 8 (.bool kp)]
               (by kernel_rfl) (by kernel_rfl) rfl (by kernel_rfl) ⟨?g0,?g1,?g2,?g3,?g4,?g5,?g6,?g7,?g8,trivial⟩ ?post
              case g0 | g2 | g5 | g7=>
               intro v w1 hx;intro bb hbb;subst hbb;refine ⟨_,fun w=>?_,rfl⟩;go_simp
              case g1 | g6=>
               intro v w1 hx;(repeat intro (zq:v _=_));intro bb hbb;subst hbb;have n0:w1.cell? ⟨gs,2,none⟩=some (.slice (some ⟨bm,off,none⟩) j capb):=(HKS9.out.ext (hdr.trans hx)).cell 2;have n1:w1.cell? ⟨gs,0,none⟩=some (.int .i64 s.limit):=(HKS9.out.ext (hdr.trans hx)).cell 0;intro K hK;go_simp;exact hK _ _ (Ext.refl _) rfl
              case g3=>
               intro v w1 hx;(repeat intro (zq:v _=_));intro bb hbb;subst hbb;refine ⟨_,fun w=>?_,rfl⟩;go_simp
              case g4=>
               intro v w1 hx;(repeat intro (zq:v _=_));intro bb hbb;subst hbb;have f0:=(hdr.trans hx).cell HE0.out;have f1:=(hdr.trans hx).cell HE1.out;have f2:=(hdr.trans hx).cell HE2.out;have f3:=(hdr.trans hx).cell HE3.out;have f4:=(hdr.trans hx).cell HE4.out;intro K hK;go_simp;exact hK _ _ (Ext.refl _) rfl
              case g8=>
               intro v w1 hx;(repeat intro (zq:v _=_));intro bb hbb;subst hbb;intro K hK;go_simp;refine Q0e (HKE.out w1 (hdr.trans hx)) ?_;rintro e w2 ⟨rfl,hx2⟩;exact ⟨_,rfl,hK _ _ hx2 rfl⟩
              case post =>
               intro v w1 hx;(iterate 9 intro (zq:v _=_));simp only [Flow.All,Flow.acts,Act.put];go_simp;have s2:w1.cell? ⟨gs,2,none⟩=some (.slice (some ⟨bm,off,none⟩) j capb):=(HKS9.out.ext (hdr.trans hx)).cell 2;have sw:=(hdr.trans hx).cell HE1.out;have HX9:=hid (HXQ.out.trans (hdr.trans hx));clear hx hdr;(repeat clear zq);cases kp with
               | true =>
                 gi_wp2
                 go_roundw
                 case rel=>exact ⟨jj + 1,by omega,by go_num,by rw [HSUC.out]; rfl,HX9.out⟩
                 case measure=>simp [intOf]; omega
               | false =>
                 gi_wp2
                 go_roundw
                 case rel=>exact ⟨jj + 1,by omega,by go_num,by rw [HSUC.out]; simp,HX9.out⟩
                 case measure=>simp [intOf]; omega
            . have hjI:¬ (jj:Int) < N:=by omega
              have hje:jj=N:=by omega
              subst hje;have hks:=Y2q s ml c;rw [HNM.out] at hks;rw [hks];have hg9:=HGJ.out c;have hsg:=Y2z s ml c;have HHG:=hid (HBG.out.ext hxq);have HXQ:=hid hxq;have c25:wr.cell? ⟨gg,1,none⟩=some (.int .i64 (Z1e s ml c)):=HHG.out.cell 1;have f25:=HHG.out.frozen 1;obtain ⟨gj,hgj⟩:∃ x,Z1e s ml c=x:=⟨_,rfl⟩;obtain ⟨kn,hkn⟩:∃ x,X7s s ml c=x:=⟨_,rfl⟩;rw [hgj] at c25 hsg hg9 HHG;rw [hkn] at hsg ⊢;have HSG:=hid hsg;clear hks hgj hkn hsg hxq hkj
              gi_wp2
              all_goals (exact ⟨(X4k HXQ.out).trans (KeepsOthers.setCell _ _ _),(Q2p _ _ _ _ (by show ge ≠ gg; have:=HGGE.out; omega)).trans (Below.block HXQ.out _ (by have:=HBW.out.size; have:=HX58.out.size; omega)),
               by first | (rw [HSG.out]; exact HHG.out.set 1 (.int .i64 (max gj kn))) | (rw [HSG.out,show max gj kn=gj from by omega]; exact HHG.out.set 1 (.int .i64 gj)) | (rw [HSG.out,show max gj kn=kn from by omega]; exact HHG.out.set 1 (.int .i64 kn)),
               (Below.trans HBW.out (HXQ.out.mono (by have:=HBG.out.lt; omega))).setCell (p:=⟨gg,1,none⟩) (Nat.le_refl _) _,(HMW.out.ext HXQ.out).keeps (KeepsOthers.setCell _ _ _)⟩)
        . have hne:((h0:Int) != (k:Int))=true:=by
           have:¬ h0=k:=fun e=>hrk (by rw [hrep,e]; simp)
           simp; omega
          have HRN:=hid (Z3v (s:=s) (k:=k) (by simpa using hrk))
          clear hrk hrep;go_wp2;obtain ⟨gl,ho,hm,hgr⟩:=HG.out.own;exact HK.out _ _ Ds hlt (by kernel_rfl) rfl ⟨rfl,⟨by rw [HN.out]; omega,⟨gl,ho.below HXA.out,by rw [hm,HRN.out],hgr.ext HXA.out⟩,by rw [HRN.out]; rfl,HG.out.marked.ext HXA.out,HG.out.low,HG.out.ext.trans HXA.out⟩⟩
 . have hkI:¬ (k:Int) < n:=by omega
   have hkn:k=n:=by omega
   subst hkn
   gi_wp2_with fail
   obtain ⟨gl,ho,hm,hgr⟩:=HG.out.own;have hall:Q5a s k=Q5b s:=by rw [<- HN.out]; exact Y9h s
   rw [hall] at hm ⊢;have hxx:Ext w wA:=HXW.out.trans HG.out.ext;change LeavesInM Fence.wide 9 Tryz.prog Tryz.f110 _ _ (marks Ds) _ _;refine Q4x (n0:=w0.heap.size) (fun W=>Q0z W w0.heap.size 64 2 Y0p vo gl /\ GrR W gl /\ Ext w W) (fun A B h ht=>⟨ht.J2g h.1,fun q hq=>ht.own (h.2.1 q hq),Below.trans h.2.2 (ht.below HXW.out.size)⟩) ?_ Ds _ HG.out.marked HG.out.low ⟨ho,hgr,hxx⟩;rintro W ⟨ho1,hg1,hx1⟩;exact ⟨_,results_tmp2 rfl _ _ _,vo,rfl,by rw [<- hm]; exact Z3j ho1 hg1 (by rw [<- List.length_map (f:=(·.2)),hm]; have:=Y5g s; have:=HV.out.some; omega) (fun q hq=>by
    have h:q.2 ∈ Q5b s:=by rw [<- hm]; exact List.mem_map_of_mem hq
    have:=Y3q s _ h;have:=HV.out.some;omega),hx1⟩
end Go.Proofs
namespace Go.Proofs
open Go.RowKit Go.Tw Go.Flow
attribute [local go_sem] Oper.semAt_some
def Q8l (s:Q0b) (need:Int):Int:=Q0g [s.err,Q0f need 0 8000]
def Q7n (s:Q0b) (need:Int):Int:=if Q8l s need=0 then (if need <= Y7i s then 7 else 0) else Q8l s need
def X1s (s:Q0b) (need:Int):List Grp:=if Q7n s need=0 then Q5b s else []
theorem Y3z {s:Q0b} {need:Int} (h:Q8l s need=0):s.err=0:=by
 unfold Q8l Q0g at h
 by_cases he:s.err=0
 . exact he
 . rw [if_neg he] at h; exact absurd h he
theorem Y7x (w:World):Q4j w (.slice none 0 0) []:=Go.Tw.Rows.nil _ _ _
theorem Y6j (w:World) (v:Value) (s:Q0b) (need:Int) (hv:Q0h w v s) (hs:Q3k s) :
    Calls Tryz.prog 39 #[v,.int .i64 need] w fun e w'=>∃ x,e=.returned (.tuple #[x,.int .i64 (Q7n s need)]) /\ Q4j w' x (X1s s need) /\ Ext w w':=by
 obtain ⟨a,b,rfl,h2⟩:=hv;obtain ⟨A,capa,rfl,-,-,-⟩:=h2.ships.opened;obtain ⟨B,capb,rfl,-,-,-⟩:=h2.members.opened;have H2:=hid h2;have HS:=hid hs;clear h2 hs;go_enter Tryz.func39,Tryz.ntmps39;go_wp2_with fail;change Calls _ _ _ (w.alloc (.cells #[.int .i64 s.limit,.slice A s.ships.length capa,.slice B s.members.length capb] 34)) _;obtain ⟨W,hWW,k0,HXW,eW⟩:=Q1t w 34 #[.int .i64 s.limit,.slice A s.ships.length capa,.slice B s.members.length capb];rw [hWW];clear hWW;have K0:=hid k0;obtain ⟨gs,hgs⟩:∃ z,w.heap.size=z:=⟨_,rfl⟩;rw [hgs] at K0 eW ⊢;clear k0 hgs;refine (Q1u _ _ s ⟨_,_,rfl,H2.out.ext HXW.out⟩ HS.out).mono ?_;rintro e w5 ⟨rfl,hx5⟩;have HXR:=hid hx5;have HER:Hid (Q8l s need=Q0g [s.err,Q0f need 0 8000]):=hid rfl;obtain ⟨E,hE⟩:∃ E,s.err=E:=⟨_,rfl⟩;have HE:=hid hE;rw [hE] at HER ⊢;have HNE:=hid (X0x w5 need);obtain ⟨R,hR⟩:∃ R,Q0f need 0 8000=R:=⟨_,rfl⟩;rw [hR] at HER HNE;have HFI:=hid (first_any (w5.alloc (.cells #[.int .i64 E,.int .i64 R] 29)) _ [E,R] (Q3q (by simp)))
 rw [<- HER.out] at HFI;have HZ:=hid (fun h=>HE.out.symm.trans (Y3z (s:=s) (need:=need) h));have HRE:Hid (Q7n s need=if Q8l s need=0 then (if need <= Y7i s then 7 else 0) else Q8l s need):=hid rfl
 have HRG:Hid (X1s s need=if Q7n s need=0 then Q5b s else []):=hid rfl
 obtain ⟨F,hFv⟩:∃ F,Q8l s need=F:=⟨_,rfl⟩;rw [hFv] at HFI HZ HRE;clear hx5 hE hR hFv
 by_cases hf:F=0
 . have hne:(F != 0)=false:=by simp [hf]
   have hV:Q1b s:=Q1b.of (HE.out.trans (HZ.out hf));rw [if_pos hf] at HRE;have hx6:=HXR.out.trans (Ext.box w5 (.cells #[.int .i64 E,.int .i64 R] 29));have hk6:=K0.out.ext hx6;have HGR:=hid (Y4t (w5.alloc (.cells #[.int .i64 E,.int .i64 R] 29)) _ s ⟨_,_,rfl,H2.out.ext (HXW.out.trans hx6)⟩ hV);have HX6:=hid (HXW.out.trans hx6);obtain ⟨bd,hbd⟩:∃ x,Y7i s=x:=⟨_,rfl⟩;rw [hbd] at HRE HGR;clear hx6 hV hbd;have c0:=(hk6).cell 0;have c1:=(hk6).cell 1;have c2:=(hk6).cell 2;simp only [Go.Tw.gA,Go.Tw.gB,Go.Tw.gC] at c0 c1 c2;clear hk6;go_wp2_with (first | (go_at_call 97; refine HNE.out.mono ?_; rintro e w6 ⟨rfl,rfl⟩) | (go_at_call 96; refine HFI.out.mono ?_; rintro e w7 ⟨rfl,rfl⟩) | (go_at_call 110; refine HGR.out.mono ?_; rintro e w8 ⟨x,rfl,h1,h2⟩; refine halted ?_))
   have HI:=hid h1;have HX8:=hid (HX6.out.trans h2);clear h1 h2 c0 c1 c2;unfold Q1i
   by_cases hb:need <= bd
   . have hre:Q7n s need=7:=by rw [HRE.out,if_pos hb]
     have hrg:X1s s need=[]:=by rw [HRG.out,hre]; rfl
     have HA:=hid hre;have HB:=hid hrg;clear HRE HRG hre hrg;go_wp2;refine bodyPost_ret (results_tmp2 Tryz.results39 _ _ _) rfl ?_;exact ⟨_,by rw [HA.out]; rfl,by rw [HB.out]; exact Y7x _,HX8.out⟩
   . have hre:Q7n s need=0:=by rw [HRE.out,if_neg hb]
     have hrg:X1s s need=Q5b s:=by rw [HRG.out,hre]; rfl
     have HA:=hid hre;have HB:=hid hrg;clear HRE HRG hre hrg;go_wp2;refine bodyPost_ret (results_tmp2 Tryz.results39 _ _ _) rfl ?_;exact ⟨_,by rw [HA.out]; rfl,by rw [HB.out]; exact HI.out,HX8.out⟩
 . have hne:(F != 0)=true:=by simp [hf]
   have hre:Q7n s need=F:=by rw [HRE.out,if_neg hf]
   have hrg:X1s s need=[]:=by rw [HRG.out,hre,if_neg hf]
   have HA:=hid hre;have HB:=hid hrg;have HX6:=hid (HXW.out.trans (HXR.out.trans (Ext.box w5 (.cells #[.int .i64 E,.int .i64 R] 29))));clear HRE HRG hre hrg hf;go_wp2_with (first | (go_at_call 97; refine HNE.out.mono ?_; rintro e w6 ⟨rfl,rfl⟩) | (go_at_call 96; refine HFI.out.mono ?_; rintro e w7 ⟨rfl,rfl⟩))
   refine bodyPost_ret (results_tmp2 Tryz.results39 _ _ _) rfl ?_;exact ⟨_,by rw [HA.out]; rfl,by rw [HB.out]; exact Y7x _,HX6.out⟩
end Go.Proofs
namespace Go.Proofs
open Go.RowKit Go.Tw Go.Flow
theorem Tryz.Z6d:Lays.n166 Tryz.prog Tryz.lays156_ren :=
 have L:=Tryz.lays156
 { mixed:=L.mixed,f166:=L.f166,f240:=L.f240,f276:=L.f276,t0:=L.t0,a0:=L.a0,z0:=L.z0,v0:=L.v0,t3:=L.t3,a3:=L.a3,z3:=L.z3,v3:=L.v3,t4:=L.t4,a4:=L.a4,z4:=L.z4,v4:=L.v4,t9:=L.t9,a9:=L.a9,z9:=L.z9,v9:=L.v9,t20:=L.t20,a20:=L.a20,z20:=L.z20,v20:=L.v20,t37:=L.t37,a37:=L.a37,z37:=L.z37,v37:=L.v37,
   t70:=L.t70,a70:=L.a70,z70:=L.z70,v70:=L.v70,t72:=L.t72,a72:=L.a72,z72:=L.z72,v72:=L.v72,t75:=L.t75,a75:=L.a75,z75:=L.z75,v75:=L.v75,t164:=L.t164,a164:=L.a164,z164:=L.z164,v164:=L.v164 }
def Bld (w:World) (b:Nat) (l:List UInt8):Prop:=Lib.IsBuilder 214 5 b b (Lib.byteCells l) w
theorem Bld.fresh (w:World):Bld (w.alloc (.cells #[.pointer none,.slice none 0 0] 214)) w.heap.size []:=Lib.fresh_isBuilder _ _ w
theorem Bld.ext {w w':World} {b:Nat} {l:List UInt8} (h:Bld w b l) (hx:Ext w w'):Bld w' b l:=by
 have key:∀ p,Lib.BuilderAt 214 5 b b p (Lib.byteCells l) w -> Lib.BuilderAt 214 5 b b p (Lib.byteCells l) w':=by
  rintro p ⟨hB,v,hb,⟨h1,h2⟩,hne⟩;refine ⟨hB,v,by rw [Below.block hx b (Array.getElem?_eq_some_iff.1 hb).1]; exact hb,⟨h1,?_⟩,hne⟩
  rcases h2 with h2 | ⟨g,cap,cur,hv,hbg,hg,r⟩
  . exact .inl h2
  . exact .inr ⟨g,cap,cur,hv,hbg,by rw [Below.block hx g (Array.getElem?_eq_some_iff.1 hg).1]; exact hg,r⟩
 rcases h with h | h
 . exact .inl (key _ h)
 . exact .inr (key _ h)
theorem Bld.lt {w:World} {b:Nat} {l:List UInt8} (h:Bld w b l):b < w.heap.size:=by
 rcases h with h | h <;> exact h.lt
theorem write_any (w:World) (b:Nat) (l:List UInt8) (s:ByteArray) (h:Bld w b l) (hl:l.length + s.size <= 140737488355328) :
    Calls Tryz.prog 148 #[.pointer (some ⟨b,0,none⟩),.string s] w fun e w'=>e=.returned (.tuple #[.int .i64 s.size,.nilIface]) /\ Bld w' b (l ++ s.data.toList) /\ Below b w w':=by
 have hlt:=h.lt;refine (Any.Builder_WriteString Tryz.Z6d Tryz.Builder_Extra_156 b b (Lib.byteCells l) s w h (by simpa [Lib.byteCells] using hl) (by omega)).mono ?_
 rintro e w' ⟨rfl,h1,h2⟩;refine ⟨rfl,.inr ?_,h2⟩;have e:Lib.byteCells (l ++ s.data.toList)=Lib.byteCells l ++ Lib.strCells s:=by simp [Lib.byteCells,Lib.strCells]
 rw [e]; exact h1
theorem Y5y (w:World) (b:Nat) (l:List UInt8) (h:Bld w b l) :
    Calls Tryz.prog 150 #[.pointer (some ⟨b,0,none⟩)] w fun e w'=>e=.returned (.string ⟨l.toArray⟩) /\ Below b w w' :=
 Tryz.Builder_String_any b b l w h (by have:=h.lt; omega)
end Go.Proofs
namespace Go.Proofs
open Go.Lib
def parts (c:UInt8):List UInt8 -> List (List UInt8)
 | []=>[[]]
 | b :: l=>if b=c then [] :: parts c l else match parts c l with
   | []=>[[b]]
   | x :: r=>(b :: x) :: r
def glue (c:UInt8):List (List UInt8) -> List UInt8
 | []=>[]
 | [x]=>x
 | x :: y :: r=>x ++ c :: glue c (y :: r)
end Go.Proofs
namespace Go.Proofs
open Go.Tw
def textOf (ls:List (List UInt8)):List UInt8:=(ls.map (· ++ [10])).flatten
def J0u (x:Int):UInt8:=UInt8.ofNat (48 + x.toNat)
def J0z:List UInt8:=[111,112,101,110]
def J0g:List UInt8:=[99,108,111,115,101]
def Z9y (c:Bool):List UInt8:=if c then J0g else J0z
def Y3e (r:Rul):List (List UInt8):=r.classes.map (fun x=>[J0u x]) ++ [Z9y r.close]
def Q8v (r:Rul):List UInt8:=glue 32 (Y3e r)
def X9q (p:List Rul):List UInt8:=textOf (p.map Q8v)
def Q5c (r:Rul):Int:=if r.classes.length=0 then 12 else if 6 < r.classes.length then 5 else Q0o r.classes 9
def Q6h (p:List Rul):Int:=if 48 < p.length then 5 else Q0g (p.map Q5c)
def Z6l (p:List Rul):ByteArray:=⟨(X9q p).toArray⟩
end Go.Proofs
