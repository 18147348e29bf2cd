/- Contract: groups (of the program): the groups of a valid Q9v and the sum of their weights. Contract: Refuse (of the program). Contracts of the reference: Coded, Always. Contracts of the reference: Few, Most. Most and Best of the program at a Q9v that is refused; small facts for the law PolicySearches. What the law PolicyBest asks, as plain facts. What the law PolicyCertifies asks, as plain facts; small lists in memory. The part of a function's body from a region on: a great walk is cut into theorems there. A part of a function's body inside its loops: a great walk is cut into theorems there, for any exits. What the law TopKeelPlayed takes from the laws of chapter 5 (as in PolicyInformed). The law's own function given, stronger: the lists of the copy's members lie apart. The region theorem with values whose own blocks are new and two and two apart (written by gen/flowf.py). keelSeason once more: the lists of the copy's members lie apart (written by gen/keelsea.py). Contract of the law's own function: keelAgain (written by gen/keelsea.py). Plain law: what PolicyFiner says: higher limits, one class for all members, a class for each member. -/
import Derived.Test.YtodinjclfmiohaaGreatKc08
import Derived.OwnWalk
import Derived.OwnWalkIn
import Derived.Test.YtodinjclfmiohaaGreatKc03
import Derived.Test.YtodinjclfmiohaaGreatKc06
import Derived.Test.YtodinjclfmiohaaGreatKc02
import Derived.Lib.MinMax
import Derived.Test.YtodinjclfmiohaaGreatKc07
import Derived.Test.YtodinjclfmiohaaGreatKc01
import Derived.Test.YtodinjclfmiohaaGreatKc05
import Derived.Deep.DeepCutAuto
set_option maxRecDepth 1000000
set_option maxHeartbeats 64000000
set_option linter.unusedVariables false
set_option linter.unusedSimpArgs false
set_option linter.constructorNameAsVariable false
namespace Go.Proofs
open Go.RowKit Go.Tw Go.Flow
attribute [local go_sem] Oper.semAt_some
theorem Tryz.J8f:(Tryz.prog.info? 99).map (fun i=>(i.zero,i.size,i.bytes)) = some (some (.agg #[.slice none 0 0,.int .i64 0]),2,32):=by kernel_rfl
theorem Tryz.J9d (w:World):(sizeOf 99).run Tryz.prog w = .ok 2 w:=by kernel_rfl
theorem Tryz.Z9w (w:World):(sizeOf 90).run Tryz.prog w = .ok 5 w:=by kernel_rfl
theorem Y7j {P:Program} {ops:Array Oper} {Q:Exit -> Act -> World -> Prop} {rest:List Oper} {a:Act} {w:World} {T ty:TypeId} {p x:Operand} {pos} {after} (h:wpList P ops Q (⟨none,.store T p x,ty,pos,after,none⟩ :: rest) a w):wpList P ops Q (⟨none,.store T p x,ty,pos,after,none⟩ :: rest) a w:=h
theorem J2f {a:ByteArray} {b:Int} {X Y Z:Option Addr} {l m n c d e:Nat}:∀ u ∈ (#[Value.string a,.int .i64 b,.slice X l c,.slice Y m d,.slice Z n e]:Array Value).toList,u.oneCell' = true:=by
 intro u hu;simp only [List.mem_cons,List.not_mem_nil,or_false] at hu
 rcases hu with rfl | rfl | rfl | rfl | rfl <;> rfl
theorem Y6v {w w':World} {base n size B:Nat} {e:TypeId} {v:Value} {xs:List Value} {o:Obj} (hown:w.ownsRow base e size v n xs) (hg:(w.alloc o).grownBy w' v.ownBlock) (hb:B <= base) (hB:B <= w.heap.size):Below B w w' :=
 Below.grown ((Below.refl B w).alloc hB o) hg (by simp; omega) (fun k hk=>Nat.le_trans hb (hown.lt k hk).1)
theorem J5w {s:Q0b} {k n:Nat} (hn:s.members.length = n) (hk:k < n):∃ h0 tl,Q8e s k = h0 :: tl /\ Z6b (Y8e s) k = (h0 == k):=by
 have hm:k ∈ Q8e s k:=List.mem_filter.2 ⟨List.mem_range.2 (by omega),by simp⟩
 obtain ⟨h0,tl,he⟩:∃ h0 tl,Q8e s k = h0 :: tl:=by
  cases h:Q8e s k with
  | nil=>rw [h] at hm; cases hm
  | cons a b=>exact ⟨a,b,rfl⟩
 refine ⟨h0,tl,he,?_⟩;have h:=Y3g (f:=Y8e s) (k:=s.members.length) (i:=k) (by omega)
 rw [<- X4r,he] at h;rw [<- h]; rfl
theorem J3g {X:Option Addr} {l c:Nat} {i:Int}:∀ u ∈ (#[Value.slice X l c,.int .i64 i]:Array Value).toList,u.oneCell' = true:=by
 intro u hu;simp only [List.mem_cons,List.not_mem_nil,or_false] at hu
 rcases hu with rfl | rfl <;> rfl
theorem GrR.grown {w w':World} {base n size:Nat} {e:TypeId} {cv:Value} {xs:List Value} {gl:List (Value × Grp)} (h:GrR w gl) (hown:w.ownsRow base e size cv n xs) (he:e ≠ 3) (hg:w.grownBy w' cv.ownBlock):GrR w' gl:=fun q hq=>Q2j (h q hq) hown he hg
theorem Z6g {w w':World} {g:Nat} {T:TypeId} {cs:Array Value} {row:Option Nat} {o:Obj} (hb:Blk w g T cs) (hne:∀ b,row = some b -> b ≠ g) (hg:(w.alloc o).grownBy w' row):Blk w' g T cs:=by
 have hl:=hb.lt;have h1:=hg.block g (by simp; omega) (by intro e; exact hne g (by first | exact e | exact e.symm) rfl)
 unfold Blk at hb ⊢;rw [h1,Below.heap_alloc w o g hl]; exact hb
theorem _root_.Go.Flow.Turns.K0l {α:Type} {B b k:Nat} {A A':World} (h:Turns B A A') {T:TypeId} {enc:α -> List Value} {v:Value} {l:List α} (ho:Q0u A b T k enc v l):Q0u A' b T k enc v l:=by
 obtain ⟨h1,h2⟩:=ho;refine ⟨h1,?_⟩
 rcases h2 with h2 | ⟨g,cap,cur,hv,hbg,hgl,r⟩
 . exact .inl h2
 . exact .inr ⟨g,cap,cur,hv,hbg,h.cells hgl rfl,r⟩
theorem Z3h (s:Q0b):(Q4q s).length <= s.members.length:=by
 rw [X5h,List.length_map]; exact X0r _ _
theorem Y7u (s:Q0b):∀ g ∈ Q4q s,g.members.length <= s.members.length:=by
 intro g hg;rw [X5h] at hg;obtain ⟨i,_,rfl⟩:=List.mem_map.1 hg;show ((Q5u _ _ _).map _).length <= _;rw [List.length_map];have h1:(Q5u (Y8e s) s.members.length i).length <= (List.range s.members.length).length:=List.length_filter_le ..;rw [List.length_range] at h1; exact h1
theorem Z8u {w:World} {B:Nat} {v:Value} {gl:List (Value × Grp)} (h:Q0u w B 99 2 Z7r v gl) (hr:GrR w gl) (hl:gl.length <= 1000) (hm:∀ q ∈ gl,q.2.members.length <= 1000):X2c w v (gl.map (·.2)):=by
 refine h.rowsOf (by simp) (by simp; omega) Z9o (fun j h1 h2=>?_) (fun c c' x hc h=>?_)
 . have hq:=List.getElem_mem h1
   simp only [List.getElem_map];exact ⟨(hr _ hq).ints (by have:=hm _ hq; omega),rfl⟩
 . exact ⟨by rw [<- hc 0 (by omega)]; exact h.1,by rw [<- hc 1 (by omega)]; exact h.2⟩
structure J9w (s:Q0b) (w0:World) (k:Nat) (vo vs:Value) (Ds:List Nat) (W:World):Prop where
 le:k <= s.members.length
 own:∃ gl:List (Value × Grp),Q0u W w0.heap.size 99 2 Z7r vo gl /\ gl.map (·.2) = Q5w s k /\ GrR W gl
 sum:vs = .int .i64 ((Q5w s k).map Grp.weight).sum
 marked:Marked W Ds
 low:∀ D,D ∈ Ds -> w0.heap.size <= D
 ext:Ext w0 W
theorem Z2v (w:World) (v:Value) (s:Q0b) (hv:Q0p w v s) (hvs:Q0m s) :
    Calls Tryz.prog 63 #[v] w fun e w'=>∃ x,e = .returned (.tuple #[x,.int .i64 (Y3l s)]) /\ X2c w' x (Q4q s) /\ Ext w w':=by
 obtain ⟨i0,hi,hz0,hz1,hz2⟩:=info_parts Tryz.info3;obtain ⟨a,b,rfl,h2⟩:=hv;obtain ⟨A,capa,rfl,-,-,-⟩:=h2.ships.opened;obtain ⟨B,capb,rfl,-,-,-⟩:=h2.members.opened;have H2:=Lib.hid h2;have HV:=Lib.hid hvs;clear h2 hvs;refine (callsIn_wide (n:=9)).1 ?_;refine callsIn_of_wp_marks Tryz.func63 rfl trivial ?_ rfl;simp only [Tryz.ntmps63,List.size_toArray,List.length_cons,List.length_nil,Nat.reduceAdd,Nat.reduceSub,Array.replicate_succ,Array.replicate_zero,List.push_toArray,List.append_toArray,List.nil_append,List.cons_append]
 gi_wp2_with fail
 obtain ⟨W,hWW,k0,HXW,eW⟩:=Q2y w 74 #[.int .i64 s.limit,.slice A s.ships.length capa,.slice B s.members.length capb];rw [hWW];clear hWW;obtain ⟨gs,hgs⟩:∃ x,w.heap.size = x:=⟨_,rfl⟩;have HGS:=Lib.hid hgs;rw [hgs] at k0 eW ⊢;obtain ⟨w0,rfl⟩:∃ X,X = W:=⟨_,rfl⟩;have KS:=Lib.hid k0;have HS2:=Lib.hid (H2.out.ext HXW.out);have HSZ0:Hid (w0.heap.size = gs + 1):=Lib.hid eW;clear k0 hgs eW;obtain ⟨n,hn⟩:∃ n,s.members.length = n:=⟨_,rfl⟩;have HN:Hid (s.members.length = n):=Lib.hid hn;rw [hn] at KS ⊢;obtain ⟨T,hT⟩:∃ n,s.ships.length = n:=⟨_,rfl⟩;have HT:Hid (s.ships.length = T):=Lib.hid hT;rw [hT] at KS ⊢;have hn8:n <= 8:=by have:=HV.out.some; omega
 have hT6:T <= 6:=by have:=HV.out.tides; omega
 clear hn hT H2;refine Z2q 19 n 0 [4,5,6,7,8,9,10,11,19,20,21,22,23,24,25,26,27,28,29,30,31,32,33,34,35,36,37,38,39,40,41,42,43,44,45,46,47,48,49,80,81,82,83,84,85,86,87,88] [] (fun k a Ds W1=>a.tmps.getD 19 undef = .int .i64 k /\ J9w s w0 k (a.tmps.getD 4 undef) (a.tmps.getD 5 undef) Ds W1) (fun k a Ds w h=>by rw [h.1]; rfl) rfl (by kernel_rfl)
  ⟨rfl,⟨Nat.zero_le _,⟨[],Q0u.nil _ _ _ _ _,rfl,GrR.nil _⟩,rfl,Marked.nil _,(fun D h=>absurd h List.not_mem_nil),Ext.refl _⟩⟩ ?round
 rintro k u Ds wA ⟨h19,hG⟩ K hK;simp only [X8d,List.foldl_cons,List.foldl_nil,List.setIfInBounds_toArray,List.set_cons_succ,List.set_cons_zero] at h19 hG ⊢;replace h19:u 19 = .int .i64 k:=h19;replace hG:J9w s w0 k (u 4) (u 5) Ds wA:=hG;rw [h19];have hu5:=hG.sum;rw [hu5];have HG:=Lib.hid hG;have HK:=Lib.hid hK;obtain ⟨vo,hvo⟩:∃ x,u 4 = x:=⟨_,rfl⟩;rw [hvo] at HG ⊢;have hk:k <= n:=by have:=hG.le; rw [HN.out] at this; exact this
 clear h19 hG hK hu5 hvo
 by_cases hlt:k < n
 . have hkI:(k:Int) < n:=by omega
   refine wpIn_wide.2 ?_;have hx0:=HG.out.ext;have hks:=KS.out.ext hx0;have hs2:=HS2.out.ext hx0;obtain ⟨bm,off,capx,capy,capz,X,Y,Z,hme⟩:=Q4r hs2.members (k:=k) (by rw [HN.out]; exact hlt)
   have hA:=hme.addr;subst hA;have HME:=Lib.hid hme;have e0:=hme.e0;have e1:=hme.e1;have e2:=hme.e2;have e3:=hme.e3;have e4:=hme.e4;obtain ⟨nm,hnm⟩:∃ x,Q1d s.members k = x:=⟨_,rfl⟩;obtain ⟨wt,hwt⟩:∃ x,Q0h s.members k = x:=⟨_,rfl⟩;obtain ⟨lc,hlc⟩:∃ x,(Q0d s.members k).length = x:=⟨_,rfl⟩;obtain ⟨lo,hlo⟩:∃ x,(Q0n s.members k).length = x:=⟨_,rfl⟩;obtain ⟨li,hli⟩:∃ x,(Q0s s.members k).length = x:=⟨_,rfl⟩;have HX2:=Lib.hid hme.x;rw [hnm] at e0;rw [hwt] at e1;rw [hlc] at e2 HX2;rw [hlo] at e3;rw [hli] at e4;have c2:wA.cell? ⟨gs,2,none⟩ = some (.slice (some ⟨bm,off,none⟩) n capb):=hks.cell 2;have HKS:=Lib.hid hks;have HS2r:=Lib.hid hs2;clear hx0 hks hs2 hme hnm hwt hlc hlo hli;go_wp2_with (with_reducible (refine Y7j ?_); refine Q0t rfl _ _ _ rfl Tryz.Z9w rfl rfl (Blk.made _ _ _) rfl rfl J2f ?_; intro w3 hb3 hl3 ho3; refine halted ?_);obtain ⟨gm,hgm⟩:∃ x,wA.heap.size = x:=⟨_,rfl⟩;have HGM:=Lib.hid hgm;have hx3:Ext wA w3:=Below.trans (Ext.box wA _) (hl3 _ (Nat.le_refl _));have hgb3:gm < w3.heap.size:=by have:=(hl3 _ (Nat.le_refl _)).size; simp at this; omega
   rw [hgm] at hb3 ⊢;have HB3:=Lib.hid hb3;have HX3:=Lib.hid hx3;have HGB3:=Lib.hid hgb3;have c2b:(w3.alloc (.cells #[.slice none 0 0] 44)).cell? ⟨gs,2,none⟩ = some (.slice (some ⟨bm,off,none⟩) n capb):=(hx3.trans (Ext.box w3 _)).cell c2;clear hb3 hl3 ho3 hx3 hgm c2 e0 e1 e2 e3 e4 hgb3;unfold Q1x;go_wp2_with fail;obtain ⟨W,hWW,k0,HXW,eW⟩:=Q2y w3 44 #[.slice none 0 0];rw [hWW];clear hWW;obtain ⟨gb,hgb⟩:∃ x,w3.heap.size = x:=⟨_,rfl⟩;have HGB:=Lib.hid hgb;have HX4:=Lib.hid (HX3.out.trans HXW.out);have hgbm:gm < gb:=by have:=HGB3.out; omega
   rw [hgb] at k0 eW ⊢;obtain ⟨w4,rfl⟩:∃ X,X = W:=⟨_,rfl⟩;have HB4:=Lib.hid k0;have HM4:=Lib.hid (HB3.out.ext HXW.out);have HSZ4:Hid (w4.heap.size = gb + 1):=Lib.hid eW;clear k0 eW hgb HXW HB3 HX3 HGB3 c2b;obtain ⟨cl,hcl⟩:∃ x,Q0d s.members k = x:=⟨_,rfl⟩;have HCL:Hid (Q0d s.members k = cl):=Lib.hid hcl;rw [hcl] at HX2;have HLS:=Lib.hid (fun j=>Y3m s j k);rw [hcl] at HLS;clear hcl
   go_loopw [28] (fun i w5=>∃ (j:Nat) (vm:Value),j <= n /\ i = .int .i64 j /\ Blk w5 gb 44 #[vm] /\ Q0i w5 (gb + 1) 3 (.int .i64) vm (X7g s j k) /\ Below gb w4 w5 /\ gb + 1 <= w5.heap.size) (fun i _=>n - (intOf i).toNat)
   case atStart=>exact ⟨0,_,Nat.zero_le _,rfl,HB4.out,Q0i.nil _ _ _ _,Below.refl _ _,by have:=HSZ4.out; omega⟩
   case round =>
    obtain ⟨j,vm,hj,rfl,hbj,hown,hlow,hszr⟩:=hrel
    by_cases hjn:j < n
    . have hjI:(j:Int) < n:=by omega
      have hxA:Ext wA wr:=Below.trans HX4.out (hlow.mono (by have:=HGM.out; omega))
      have hkb:=HM4.out.below hlow hgbm;have HQ:=Lib.hid (Z2r wr gs gm j _ _ s _ _ _ _ _ cl (by rw [HN.out,HT.out]; exact HKS.out.ext hxA) (HS2r.out.ext hxA) hkb (HX2.out.ext hxA) (by rw [HN.out]; exact hjn))
      obtain ⟨q,hq⟩:∃ q,decide (Q0d s.members j = cl) = q:=⟨_,rfl⟩;have hls:=HLS.out j;rw [hq] at HQ hls;have HLJ:=Lib.hid hls;have HLO:=Lib.hid hlow;have hlen:=X9u s k j;have hll:(X7g s j k).length <= 4096:=by omega
      obtain ⟨w5,rfl⟩:∃ X,X = wr:=⟨_,rfl⟩;clear hq hls hxA hkb hlow hlen;cases q with
      | false =>
        go_wp2_with (go_at_call 118; refine HQ.out.mono ?_; rintro e w6 ⟨rfl,hx6⟩);go_roundw
        case rel=>exact ⟨j + 1,vm,by omega,by go_num,hbj.ext hx6,by rw [HLJ.out]; simpa using hown.below hx6,Below.trans HLO.out (hx6.mono (by omega)),by have:=hx6.size; omega⟩
        case measure=>simp [intOf]; omega
      | true =>
        go_wp2_with (go_at_call 118; refine HQ.out.mono ?_; rintro e w6 ⟨rfl,hx6⟩; refine halted ?_);have hb6:=hbj.ext hx6;have hown6:=hown.below hx6;have hs6:gb + 1 <= w6.heap.size:=by have:=hx6.size; omega
        have c6:w6.cell? ⟨gb,0,none⟩ = some vm:=hb6.cell 0;have HB6:=Lib.hid hb6;have HX6:=Lib.hid hx6;clear hbj hown hb6;unfold Q1x;go_wp2_with ((at_builtin; refine wpList_append_own _ rfl _ _ 44 rfl (gb + 1) 3 i0 (.int .i64 0) 1 8 Tryz.underlying44 hi hz0 hz1 hz2 rfl (by decide) _ _ _ rfl (World.ownsRow.alloc hown6 _) ⟨w6.heap.size,0,none⟩ 1 1 [.int .i64 (j:Int)] rfl rfl ?_ ?_ ?_ ?_ ?_ ?_; exact Q4p _ _ _; (focus (simp [Value.oneCell'])); (focus (unfold maxLen; omega)); (focus omega); (focus (have:=hx6.size; simp at this ⊢; omega)); intro v' w1 hown' hgrow _); refine halted ?_)
        have hbl:Below (gb + 1) w6 w1:=Y6v hown6 hgrow (Nat.le_refl _) hs6;have hb1:=HB6.out.below hbl (by omega)
        have c1':w1.cell? ⟨gb,0,none⟩ = some vm:=hb1.cell 0;have f1:=hb1.frozen 0;have HB1:=Lib.hid hb1;have HBL:=Lib.hid hbl;have HSZ1:Hid (gb + 1 <= w1.heap.size):=Lib.hid (by have:=hbl.size; omega)
        have HOW:=Lib.hid (show Q0i w1 (gb + 1) 3 (.int .i64) v' (X7g s j k ++ [(j:Int)]) from Q0i.snoc hown')
        clear hgrow hb1 hbl hown' hown6 hx6;obtain ⟨Av,cv',rfl,-⟩:=HOW.out.shape;unfold Q1x;go_wp2;go_roundw
        case rel=>exact ⟨j + 1,_,by omega,by go_num,HB1.out.set 0 _,by rw [show X7g s (j + 1) k = X7g s j k ++ [(j:Int)] from by rw [HLJ.out]; rfl]; have h:=HOW.out; rw [List.length_append] at h; exact h.setCell (p:=⟨gb,0,none⟩) (Nat.lt_succ_self _) _,(Below.trans HLO.out (Below.trans (HX6.out.mono (by omega)) (HBL.out.mono (Nat.le_succ _)))).setCell (p:=⟨gb,0,none⟩) (Nat.le_refl _) _,by have:=HSZ1.out; simp; omega⟩
        case measure=>simp [intOf]; omega
    . have hjI:¬ (j:Int) < n:=by omega
      have hje:j = n:=by omega
      subst hje;obtain ⟨w5,rfl⟩:∃ X,X = wr:=⟨_,rfl⟩;have hxA:Ext wA w5:=Below.trans HX4.out (hlow.mono (by have:=HGM.out; omega))
      have hLI:X7g s j k = X7z s k:=by unfold X7g X7z; rw [X4r,HN.out]
      have hlen:=X9u s k j;rw [hLI] at hown hlen;obtain ⟨h0,tl,hsame,hrep⟩:=J5w HN.out hlt;have hL0:X7z s k = (h0:Int) :: tl.map Int.ofNat:=by unfold X7z; rw [hsame]; rfl
      have hLp:0 < (X7z s k).length:=by rw [hL0]; simp
      have hix:ix (X7z s k) 0 = (h0:Int):=by rw [hL0]; rfl
      have HOW:=Lib.hid hown
      rcases hown.cells2 with ⟨_,h⟩ | ⟨gv,cv,rfl,hcapv,hbv,hgv,hcv⟩
      . rw [hL0] at h; cases h
      . have hc0:w5.cell? ⟨gv,0,none⟩ = some (.int .i64 (h0:Int)):=by
         have h:=hcv 0 hLp;rw [show (X7z s k)[0] = (h0:Int) from by rw [<- hix,Q5p hLp]] at h
         exact h
        have HCV:=Lib.hid hcv;have hbj0:w5.cell? ⟨gb,0,none⟩ = some (.slice (some ⟨gv,0,none⟩) (X7z s k).length cv):=hbj.cell 0;have HBJ:=Lib.hid hbj;have HXA:=Lib.hid hxA;have HLOW:=Lib.hid hlow;have HSAME:=Lib.hid hsame;have HLEN:=Lib.hid hlen;have HL0:=Lib.hid hL0;obtain ⟨L,hL⟩:∃ L,X7z s k = L:=⟨_,rfl⟩;have HLL:=Lib.hid hL;obtain ⟨N,hN⟩:∃ N,L.length = N:=⟨_,rfl⟩;have HNN:=Lib.hid hN;rw [hL] at hbj0 hLp HCV HBJ HOW HLEN HL0;rw [hN] at hbj0 hLp HBJ HOW HLEN;have hLpI:(0:Int) < N:=by omega
        clear hL hN hbj hxA hlow hsame hlen hL0 hcv hix hcapv hbv hLI hown
        by_cases hrk:Z6b (Y8e s) k = true
        . have he:h0 = k:=by rw [hrep] at hrk; simpa using hrk
          have hne:((h0:Int) != (k:Int)) = false:=by simp [he]
          have HRP:=Lib.hid hrk;clear hrk hrep;go_wp2_with (with_reducible (refine Y7j ?_); refine Q0t rfl _ _ _ rfl Tryz.J9d rfl rfl (Blk.made _ _ _) rfl rfl J3g ?_; intro w7 hb7 hl7 ho7; refine halted ?_);obtain ⟨gg,hgg⟩:∃ x,w5.heap.size = x:=⟨_,rfl⟩;have HGG:=Lib.hid hgg;rw [hgg] at hb7 ⊢;have hx7:Ext w5 w7:=Below.trans (Ext.box w5 _) (hl7 _ (Nat.le_refl _));have HX7:=Lib.hid hx7;have HXA7:=Lib.hid (HXA.out.trans hx7);have HB7:=Lib.hid hb7;have HBJ7:=Lib.hid (HBJ.out.ext hx7);have c16:w7.cell? ⟨gs,1,none⟩ = some (.slice A T capa):=(HKS.out.ext HXA7.out).cell 1;have hgg7:gg < w7.heap.size:=by have:=hb7.lt; omega
          clear hb7 hl7 ho7 hx7 hgg hbj0 hc0 hne;unfold Q1x;go_wp2_with (go_at_call 120; refine (J3q w7 (T:Int)).mono ?_; rintro e w8 ⟨rfl,hbe,hse,hxe⟩; refine halted ?_);have HB8:=Lib.hid (HB7.out.ext hxe);have HX8:=Lib.hid (HXA7.out.trans hxe);have HBJ8:=Lib.hid (HBJ7.out.ext hxe);obtain ⟨ge,hge⟩:∃ x,w7.heap.size = x:=⟨_,rfl⟩;rw [hge] at hbe hse hgg7 ⊢;have HGGE:=Lib.hid hgg7;have HOW8:=Lib.hid (HOW.out.below (HX7.out.trans hxe));have HX58:=Lib.hid (HX7.out.trans hxe);have hT8:T <= 8:=by omega
          clear hxe c16 hge HB7 HBJ7 HX7 HXA7 HBJ hgg7;unfold Q1x;go_wp2_with fail;obtain ⟨ml,hml⟩:∃ l,Q8e s k = l:=⟨_,rfl⟩;have HML:Hid (Q8e s k = ml):=Lib.hid hml;have hLm:L = ml.map Int.ofNat:=by rw [<- HLL.out,<- hml]; rfl
          have hNm:ml.length = N:=by rw [<- HNN.out,hLm,List.length_map]
          have hmem:∀ x ∈ ml,x < j:=fun x hx=>by rw [<- hml] at hx; have:=List.mem_range.1 (List.mem_filter.1 hx).1; rw [HN.out] at this; exact this
          have HMM:=Lib.hid hmem;have hml8:ml.length <= 8:=by have:=HLEN.out; omega
          have hgbd:=fun c=>Z3i HV.out (l:=ml) (fun x hx=>by rw [HN.out]; exact hmem x hx) hml8 c
          have HGJ:=Lib.hid hgbd;have hkbd:=fun c jj hjj=>Y5j HV.out (l:=ml) (fun x hx=>by rw [HN.out]; exact hmem x hx) c jj hjj
          have HKJ:=Lib.hid hkbd;have HLM:=Lib.hid hLm;have HNM:=Lib.hid hNm;clear hml hLm hNm hmem hgbd hkbd HSAME;refine (wpIn_wide (n:=9)).1 ?_;refine Z1e (n:=9) rfl (by omega) (gf:=166) (lb:=#[.pointer (some ⟨ge,0,none⟩)]) rfl trivial (enters_of Tryz.func166 (by kernel_rfl) rfl)
           (Z6q _ ge T w8 hT8 hbe) rfl (fun h1 h2=>Eq.trans h2 h1) (fun h=>h.same (by omega)) (fun h ho=>h.own ho)
           (fun c W=>Blk W gg 99 #[.slice (some ⟨gv,0,none⟩) N cv,.int .i64 (J1p s ml c)] /\ Below gg w8 W /\ Marked W Ds)
           (fun c A B ⟨h1,h2,h3⟩ hx=>⟨h1.ext hx,Below.trans h2 (hx.mono (by have:=h1.lt; omega)),h3.ext hx⟩)
           (fun h ⟨h1,h2,h3⟩=>⟨h.blk h1,Below.trans h2 (h.below (by have:=HGGE.out; omega)),h3.turns (fun D hD=>by have:=HG.out.marked.lt hD; have:=HX8.out.size; omega) h⟩)
           ⟨HB8.out,Below.refl _ _,HG.out.marked.ext HX8.out⟩ ?frm ?assign ?body ?done
          case assign =>
           intro l x W K hK
           gi_wp2
           exact hK
          case done =>
           rintro D W hD ⟨hb,hB,hmw⟩ hDD;have hgw:J1p s ml (2 ^ T) = (Z0x s k).weight:=by show _ = X3a s (Q8e s k); rw [HML.out]; unfold X3a J1p; rw [HT.out]
           rw [hgw] at hb;have hxw:Ext wA W:=Below.trans HX8.out (hB.mono (by have:=HXA.out.size; have:=HGG.out; omega))
           have hwb:0 <= (Z0x s k).weight /\ (Z0x s k).weight <= 8000:=by rw [<- hgw]; exact HGJ.out _
           have hmk2:Marked W (D :: Ds):=hmw.cons hDD fun E hE=>by have:=HG.out.marked.lt hE; have:=HX8.out.size; omega
           have hdl2:∀ E,E ∈ D :: Ds -> w0.heap.size <= E:=fun E hE=>by
            rcases List.mem_cons.1 hE with rfl | hE
            . have:=HX8.out.size; have:=HG.out.ext.size; omega
            . exact HG.out.low E hE
           obtain ⟨gl,ho,hgm,hgr⟩:=HG.out.own;have hvl:Q0i W (gb + 1) 3 (.int .i64) (.slice (some ⟨gv,0,none⟩) N cv) L:=HOW.out.below (Below.trans HX58.out (hB.mono (by have:=HGG.out; omega)))
           have hglen:gl.length <= 8:=by
            have h:=congrArg List.length hgm;rw [List.length_map,Q5w,List.length_map] at h;have:=X0r (Y8e s) k;omega
           have hsm:=J6a HV.out k;have hyes:=Z5t (s:=s) (k:=k) HRP.out;have hos:∀ b,vo.ownBlock = some b -> b ≠ gg:=fun b hb e=>by
            have:=(World.ownsRow.lt ho b hb).2;have:=HXA.out.size; have:=HGG.out; omega
           have hown:=ho.below hxw;have hgrW:=hgr.ext hxw;have hx0W:=HG.out.ext.trans hxw;have HY:=Lib.hid hyes;have HBG:=Lib.hid hb;have HMK2:=Lib.hid hmk2;have HDL2:=Lib.hid hdl2;have HX0W:=Lib.hid hx0W;have HVL:=Lib.hid hvl;have HGM9:=Lib.hid hgm;have HGR:=Lib.hid hgrW;have d0:W.cell? ⟨gg,0,none⟩ = some (.slice (some ⟨gv,0,none⟩) N cv):=hb.cell 0;have d1:W.cell? ⟨gg,1,none⟩ = some (.int .i64 (Z0x s k).weight):=hb.cell 1;obtain ⟨gw,hgw9⟩:∃ x,(Z0x s k).weight = x:=⟨_,rfl⟩;have HGW:Hid ((Z0x s k).weight = gw):=Lib.hid hgw9;rw [hgw9] at d1 hwb HBG;clear hb hB hmw hDD hgw hmk2 hdl2 ho hgr hgrW hvl hyes hgm hgw9;obtain ⟨i0,hi,hz0,hz1,hz2⟩:=info_parts Tryz.J8f;go_wp2_with ((at_builtin; refine wpList_append_own _ rfl _ _ 95 rfl (w0.heap.size) 99 i0 (.agg #[.slice none 0 0,.int .i64 0]) 2 32 Tryz.underlying95 hi hz0 hz1 hz2 rfl (by decide) _ _ _ rfl (World.ownsRow.alloc hown _) ⟨W.heap.size,0,none⟩ 1 1 [.slice (some ⟨gv,0,none⟩) N cv,.int .i64 gw] rfl rfl ?_ ?_ ?_ ?_ ?_ ?_; exact Z4y _ _ _; (focus (simp [Value.oneCell'])); (focus (unfold maxLen; omega)); (focus omega); (focus (have:=hx0W.size; simp at this ⊢; omega)); intro v' w1 hown' hgrow _); refine halted ?_)
           have HBGX:=Lib.hid (Z6g HBG.out hos hgrow);have hxg:Ext w0 w1:=Q3b hx0W hown (Nat.le_refl _) hgrow;have hke:KeepsOthers W w1:=(KeepsOthers.alloc W _).trans (KeepsOthers.of_grownBy hgrow (fun j o h1 h2=>by
            rcases hown.2 with ⟨hv0,_⟩ | ⟨g,cap,cur,hv0,_,hg0,_⟩
            . have h1:vo.ownBlock = some j:=h1
              rw [hv0] at h1; cases h1
            . have h1:vo.ownBlock = some j:=h1
              rw [hv0] at h1; cases h1;have:=Below.block (Ext.box W (.cells #[.slice (some ⟨gv,0,none⟩) N cv,.int .i64 gw] 99)) g (Array.getElem?_eq_some_iff.1 hg0).1;rw [this,hg0] at h2; cases h2; rfl))
           have HKE:=Lib.hid hke;have HXG:=Lib.hid hxg;have HOWG:=Lib.hid (show Q0u w1 w0.heap.size 99 2 Z7r v' (gl ++ [(.slice (some ⟨gv,0,none⟩) N cv,Z0x s k)]) from Q0u.snoc (by show w1.ownsRow _ _ _ _ _ (gl.flatMap Z7r ++ [.slice (some ⟨gv,0,none⟩) N cv,.int .i64 (Z0x s k).weight]); rw [HGW.out]; exact hown'))
           have HGRX:=Lib.hid (GrR.grown (HGR.out.ext (Ext.box W _)) (World.ownsRow.alloc hown _) (by decide) hgrow)
           have HVLX:=Lib.hid (Q2j (HVL.out.weaken (Nat.zero_le _) |>.below (Ext.box W _)) (World.ownsRow.alloc hown _) (by decide) hgrow)
           have d1:w1.cell? ⟨gg,1,none⟩ = some (.int .i64 gw):=HBGX.out.cell 1;have hwr9:IntKind.i64.wrap (((Q5w s k).map Grp.weight).sum + gw) = ((Q5w s k).map Grp.weight).sum + gw:=Q2q _ (by omega) (by omega)
           obtain ⟨sm,hsm9⟩:∃ x,((Q5w s k).map Grp.weight).sum = x:=⟨_,rfl⟩;have HSM9:=Lib.hid hsm9;rw [hsm9] at hwr9 hsm ⊢;clear hown hown' hgrow hxg hke hsm9 d0;unfold Q1x;go_wp2;have HGI:J9w s w0 (k + 1) v' (.int .i64 (sm + gw)) (D :: Ds) w1 :=
            ⟨by rw [HN.out]; omega,⟨gl ++ [(.slice (some ⟨gv,0,none⟩) N cv,Z0x s k)],HOWG.out,by rw [List.map_append,HGM9.out,HY.out]; rfl,HGRX.out.snoc (by show Q0i _ _ _ _ _ (X7z s k); rw [HLL.out]; exact HVLX.out)⟩,
            by rw [HY.out,List.map_append,List.sum_append,HSM9.out]; show Value.int .i64 (sm + gw) = _; simp [HGW.out],HMK2.out.keeps HKE.out,HDL2.out,HXG.out⟩
           exact HK.out _ _ (D :: Ds) hlt (by kernel_rfl) rfl ⟨rfl,HGI⟩
          case body =>
           rintro l c vc W hc ⟨hb,hB,hmw⟩ hvc;have hxw:Ext wA W:=Below.trans HX8.out (hB.mono (by have:=HXA.out.size; have:=HGG.out; omega))
           have hgbW:gb < gg:=by have:=HBJ8.out.lt; have:=HLOW.out.size; have:=HSZ4.out; have:=HGG.out; omega
           have c9:W.cell? ⟨gb,0,none⟩ = some (.slice (some ⟨gv,0,none⟩) N cv):=(HBJ8.out.below hB hgbW).cell 0;have HXW:=Lib.hid hxw;have HBG:=Lib.hid hb;have HBW:=Lib.hid hB;have HMW:=Lib.hid hmw;have hcll:=J3p c T;obtain ⟨cl9,hcl9⟩:∃ x,Q7q c T = x:=⟨_,rfl⟩;rw [hcl9] at hvc hcll;have HCL9:Hid (Q7q c T = cl9):=Lib.hid hcl9;have HVC:=Lib.hid hvc;obtain ⟨Ac,cc,rfl,-⟩:=hvc.shape;have HLC:Hid (cl9.length = T):=Lib.hid hcll;clear hb hB hmw hvc hcl9 hxw hcll
           gi_wp2
           clear c9
           gi_loopw [53,13] (fun i nn wq=>∃ jj:Nat,jj <= N /\ i = .int .i64 jj /\ nn = .int .i64 (Y1q s ml c jj) /\ Ext W wq) (fun i _ _=>N - (intOf i).toNat)
           case atStart=>exact ⟨0,Nat.zero_le _,rfl,rfl,Ext.refl _⟩
           case round =>
            obtain ⟨jj,hjj,rfl,rfl,hxq⟩:=hrel;have hkj:=HKJ.out c jj (by rw [HNM.out]; exact hjj)
            by_cases hjl:jj < N
            . have hjI:(jj:Int) < N:=by omega
              have hjm:jj < ml.length:=by rw [HNM.out]; exact hjl
              have hkb:=HMM.out ml[jj] (List.getElem_mem hjm);have hsuc:=Y2k (s:=s) (c:=c) hjm;obtain ⟨kk,hkk⟩:∃ x,ml[jj] = x:=⟨_,rfl⟩;have hcq:wr.cell? ⟨gv,jj,none⟩ = some (.int .i64 (kk:Int)):=by
               have h:=HCV.out jj (by rw [HLM.out,List.length_map]; exact hjm)
               rw [Nat.zero_add,show L[jj]'(by rw [HLM.out,List.length_map]; exact hjm) = (kk:Int) from by simp only [HLM.out,List.getElem_map,hkk]; rfl] at h
               have hx56:Ext w5 wr:=Below.trans HX58.out (Below.trans (HBW.out.mono (by have:=HGG.out; omega)) (hxq.mono (by have:=HX58.out.size; have:=HBW.out.size; omega)))
               exact hx56.cell h
              rw [hkk] at hkb hsuc;have hxr:Ext wA wr:=HXW.out.trans hxq;obtain ⟨bm',off',capx',capy',capz',X',Y',Z',hme⟩:=Q4r (HS2r.out.ext hxr).members (k:=kk) (by rw [HN.out]; exact hkb)
              have hA:=hme.addr;injection hA with hA;injection hA with hA1 hA2;subst hA1 hA2;have hwt:=HV.out.weights kk (by rw [HN.out]; exact hkb)
              have HE0:=Lib.hid hme.e0;have HE1:=Lib.hid hme.e1;have HE2:=Lib.hid hme.e2;have HE3:=Lib.hid hme.e3;have HE4:=Lib.hid hme.e4;have HKE:=Lib.hid (fun (w1:World) (hx:Ext wr w1)=>Z7f w1 _ _ (Q1k s kk) s.limit cl9 (hme.mem hx) ((HVC.out.bools (by rw [HLC.out]; omega)).ext (hxq.trans hx)) (by rw [HLC.out]; omega) (by rw [HLC.out]; exact Z3z HV.out (by rw [HN.out]; exact hkb) (by rw [HT.out]; exact Nat.le_refl _)))
              obtain ⟨nm',hnm'⟩:∃ x,Q1d s.members kk = x:=⟨_,rfl⟩;obtain ⟨wt',hwt'⟩:∃ x,Q0h s.members kk = x:=⟨_,rfl⟩;obtain ⟨lc',hlc'⟩:∃ x,(Q0d s.members kk).length = x:=⟨_,rfl⟩;obtain ⟨lo',hlo'⟩:∃ x,(Q0n s.members kk).length = x:=⟨_,rfl⟩;obtain ⟨li',hli'⟩:∃ x,(Q0s s.members kk).length = x:=⟨_,rfl⟩;rw [hnm'] at HE0 HKE;rw [hwt'] at HE1 HKE hsuc hwt;rw [hlc'] at HE2 HKE;rw [hlo'] at HE3 HKE;rw [hli'] at HE4 HKE;rw [HT.out,HCL9.out] at hsuc;obtain ⟨kp,hkp⟩:∃ x,(Q1k s kk).keeps s.limit cl9 = x:=⟨_,rfl⟩;rw [hkp] at HKE hsuc;obtain ⟨kj,hkj'⟩:∃ x,Y1q s ml c jj = x:=⟨_,rfl⟩;rw [hkj'] at hsuc hkj ⊢;have HSUC:=Lib.hid hsuc;have HKS9:=Lib.hid (HKS.out.ext hxr);have HXQ:=Lib.hid hxq;have hdr:=(Ext.refl wr).drew;have hkkI:(kk:Int) < j:=by omega
              have hw9:IntKind.i64.wrap (kj + wt') = kj + wt':=Q2q _ (by omega) (by omega)
              obtain ⟨wx,rfl⟩:∃ X,X = wr:=⟨_,rfl⟩;clear hkk hme hnm' hwt' hlc' hlo' hli' hkp hkj' hsuc hxr hxq
              gi_wp2
              refine Flow.J0f [.p,.w,.p,.p,.w,.p,.w,.p,.w] [0,1,2,3,4,5,6,7,8] [[],[0],[],[1,2],[3],[],[5],[],[4,6,7]]
               [.c 0 (.pointer (some ⟨gs,2,none⟩)),.c 1 (.slice (some ⟨bm,off,none⟩) j capb),.c 2 (.int .i64 (kk:Int)),.c 3 (.pointer (some ⟨bm,off + kk * 5,none⟩)),.c 4 (.agg #[.string nm',.int .i64 wt',.slice X' lc' capx',.slice Y' lo' capy',.slice Z' li' capz']),.c 5 (.pointer (some ⟨gs,0,none⟩)),.c 6 (.int .i64 s.limit),.c 7 (.slice Ac cl9.length cc),.c 8 (.bool kp)]
               (by kernel_rfl) (by kernel_rfl) rfl (by kernel_rfl) ⟨?g0,?g1,?g2,?g3,?g4,?g5,?g6,?g7,?g8,trivial⟩ ?post
              case g0 | g2 | g5 | g7=>
               intro v w1 hx;intro bb hbb;subst hbb;refine ⟨_,fun w=>?_,rfl⟩;go_simp
              case g1 | g6=>
               intro v w1 hx;(repeat intro (zq:v _ = _));intro bb hbb;subst hbb;have n0:w1.cell? ⟨gs,2,none⟩ = some (.slice (some ⟨bm,off,none⟩) j capb):=(HKS9.out.ext (hdr.trans hx)).cell 2;have n1:w1.cell? ⟨gs,0,none⟩ = some (.int .i64 s.limit):=(HKS9.out.ext (hdr.trans hx)).cell 0;intro K hK;go_simp;exact hK _ _ (Ext.refl _) rfl
              case g3=>
               intro v w1 hx;(repeat intro (zq:v _ = _));intro bb hbb;subst hbb;refine ⟨_,fun w=>?_,rfl⟩;go_simp
              case g4=>
               intro v w1 hx;(repeat intro (zq:v _ = _));intro bb hbb;subst hbb;have f0:=(hdr.trans hx).cell HE0.out;have f1:=(hdr.trans hx).cell HE1.out;have f2:=(hdr.trans hx).cell HE2.out;have f3:=(hdr.trans hx).cell HE3.out;have f4:=(hdr.trans hx).cell HE4.out;intro K hK;go_simp;exact hK _ _ (Ext.refl _) rfl
              case g8=>
               intro v w1 hx;(repeat intro (zq:v _ = _));intro bb hbb;subst hbb;intro K hK;go_simp;refine Q0f (HKE.out w1 (hdr.trans hx)) ?_;rintro e w2 ⟨rfl,hx2⟩;exact ⟨_,rfl,hK _ _ hx2 rfl⟩
              case post =>
               intro v w1 hx;(iterate 9 intro (zq:v _ = _));simp only [Flow.All,Flow.acts,Act.put];go_simp;have s2:w1.cell? ⟨gs,2,none⟩ = some (.slice (some ⟨bm,off,none⟩) j capb):=(HKS9.out.ext (hdr.trans hx)).cell 2;have sw:=(hdr.trans hx).cell HE1.out;have HX9:=Lib.hid (HXQ.out.trans (hdr.trans hx));clear hx hdr;(repeat clear zq);cases kp with
               | true =>
                 gi_wp2
                 go_roundw
                 case rel=>exact ⟨jj + 1,by omega,by go_num,by rw [HSUC.out]; rfl,HX9.out⟩
                 case measure=>simp [intOf]; omega
               | false =>
                 gi_wp2
                 go_roundw
                 case rel=>exact ⟨jj + 1,by omega,by go_num,by rw [HSUC.out]; simp,HX9.out⟩
                 case measure=>simp [intOf]; omega
            . have hjI:¬ (jj:Int) < N:=by omega
              have hje:jj = N:=by omega
              subst hje;have hks:=Y8b s ml c;rw [HNM.out] at hks;rw [hks];have hg9:=HGJ.out c;have hsg:=Y8i s ml c;have HHG:=Lib.hid (HBG.out.ext hxq);have HXQ:=Lib.hid hxq;have c25:wr.cell? ⟨gg,1,none⟩ = some (.int .i64 (J1p s ml c)):=HHG.out.cell 1;have f25:=HHG.out.frozen 1;obtain ⟨gj,hgj⟩:∃ x,J1p s ml c = x:=⟨_,rfl⟩;obtain ⟨kn,hkn⟩:∃ x,Q9b s ml c = x:=⟨_,rfl⟩;rw [hgj] at c25 hsg hg9 HHG;rw [hkn] at hsg ⊢;have HSG:=Lib.hid hsg;clear hks hgj hkn hsg hxq hkj
              gi_wp2
              all_goals (exact ⟨(J8n HXQ.out).trans (KeepsOthers.setCell _ _ _),(Q9z _ _ _ _ (by show ge ≠ gg; have:=HGGE.out; omega)).trans (Below.block HXQ.out _ (by have:=HBW.out.size; have:=HX58.out.size; omega)),
               by first | (rw [HSG.out]; exact HHG.out.set 1 (.int .i64 (max gj kn))) | (rw [HSG.out,show max gj kn = gj from by omega]; exact HHG.out.set 1 (.int .i64 gj)) | (rw [HSG.out,show max gj kn = kn from by omega]; exact HHG.out.set 1 (.int .i64 kn)),
               (Below.trans HBW.out (HXQ.out.mono (by have:=HBG.out.lt; omega))).setCell (p:=⟨gg,1,none⟩) (Nat.le_refl _) _,(HMW.out.ext HXQ.out).keeps (KeepsOthers.setCell _ _ _)⟩)
        . have hne:((h0:Int) != (k:Int)) = true:=by
           have:¬ h0 = k:=fun e=>hrk (by rw [hrep,e]; simp)
           simp; omega
          have HRN:=Lib.hid (Z7x (s:=s) (k:=k) (by simpa using hrk))
          clear hrk hrep;go_wp2;obtain ⟨gl,ho,hm,hgr⟩:=HG.out.own;exact HK.out _ _ Ds hlt (by kernel_rfl) rfl ⟨rfl,⟨by rw [HN.out]; omega,⟨gl,ho.below HXA.out,by rw [hm,HRN.out],hgr.ext HXA.out⟩,by rw [HRN.out]; rfl,HG.out.marked.ext HXA.out,HG.out.low,HG.out.ext.trans HXA.out⟩⟩
 . have hkI:¬ (k:Int) < n:=by omega
   have hkn:k = n:=by omega
   subst hkn
   gi_wp2_with fail
   obtain ⟨gl,ho,hm,hgr⟩:=HG.out.own;have hall:Q5w s k = Q4q s:=by rw [<- HN.out]; exact Z5z s
   rw [hall] at hm ⊢;have hxx:Ext w wA:=HXW.out.trans HG.out.ext;change LeavesInM Fence.wide 9 Tryz.prog Tryz.f63 _ _ (marks Ds) _ _;refine X5r (n0:=w0.heap.size) (fun W=>Q0u W w0.heap.size 99 2 Z7r vo gl /\ GrR W gl /\ Ext w W) (fun A B h ht=>⟨ht.K0l h.1,fun q hq=>ht.own (h.2.1 q hq),Below.trans h.2.2 (ht.below HXW.out.size)⟩) ?_ Ds _ HG.out.marked HG.out.low ⟨ho,hgr,hxx⟩;rintro W ⟨ho1,hg1,hx1⟩;exact ⟨_,results_tmp2 rfl _ _ _,vo,rfl,by rw [<- hm]; exact Z8u ho1 hg1 (by rw [<- List.length_map (f:=(·.2)),hm]; have:=Z3h s; have:=HV.out.some; omega) (fun q hq=>by
    have h:q.2 ∈ Q4q s:=by rw [<- hm]; exact List.mem_map_of_mem hq
    have:=Y7u s _ h;have:=HV.out.some;omega),hx1⟩
end Go.Proofs
namespace Go.Proofs
open Go.RowKit Go.Tw Go.Flow
attribute [local go_sem] Oper.semAt_some
def Q7l (s:Q0b) (need:Int):Int:=Q0k [s.err,Q0g need 0 8000]
def Q7o (s:Q0b) (need:Int):Int:=if Q7l s need = 0 then (if need <= Y3l s then 7 else 0) else Q7l s need
def X1r (s:Q0b) (need:Int):List Grp:=if Q7o s need = 0 then Q4q s else []
theorem Y7k {s:Q0b} {need:Int} (h:Q7l s need = 0):s.err = 0:=by
 unfold Q7l Q0k at h
 by_cases he:s.err = 0
 . exact he
 . rw [if_neg he] at h; exact absurd h he
theorem Z4w (w:World):X2c w (.slice none 0 0) []:=Go.Tw.Rows.nil _ _ _
theorem Z3j (w:World) (v:Value) (s:Q0b) (need:Int) (hv:Q0p w v s) (hs:Q2x s) :
    Calls Tryz.prog 27 #[v,.int .i64 need] w fun e w'=>∃ x,e = .returned (.tuple #[x,.int .i64 (Q7o s need)]) /\ X2c w' x (X1r s need) /\ Ext w w':=by
 obtain ⟨a,b,rfl,h2⟩:=hv;obtain ⟨A,capa,rfl,-,-,-⟩:=h2.ships.opened;obtain ⟨B,capb,rfl,-,-,-⟩:=h2.members.opened;have H2:=Lib.hid h2;have HS:=Lib.hid hs;clear h2 hs;go_enter Tryz.func27,Tryz.ntmps27;go_wp2_with fail;change Calls _ _ _ (w.alloc (.cells #[.int .i64 s.limit,.slice A s.ships.length capa,.slice B s.members.length capb] 74)) _;obtain ⟨W,hWW,k0,HXW,eW⟩:=Q2y w 74 #[.int .i64 s.limit,.slice A s.ships.length capa,.slice B s.members.length capb];rw [hWW];clear hWW;have K0:=Lib.hid k0;obtain ⟨gs,hgs⟩:∃ z,w.heap.size = z:=⟨_,rfl⟩;rw [hgs] at K0 eW ⊢;clear k0 hgs;refine (Q4b _ _ s ⟨_,_,rfl,H2.out.ext HXW.out⟩ HS.out).mono ?_;rintro e w5 ⟨rfl,hx5⟩;have HXR:=Lib.hid hx5;have HER:Hid (Q7l s need = Q0k [s.err,Q0g need 0 8000]):=Lib.hid rfl;obtain ⟨E,hE⟩:∃ E,s.err = E:=⟨_,rfl⟩;have HE:=Lib.hid hE;rw [hE] at HER ⊢;have HNE:=Lib.hid (X4l w5 need);obtain ⟨R,hR⟩:∃ R,Q0g need 0 8000 = R:=⟨_,rfl⟩;rw [hR] at HER HNE;have HFI:=Lib.hid (first_any (w5.alloc (.cells #[.int .i64 E,.int .i64 R] 34)) _ [E,R] (Q2l (by simp)))
 rw [<- HER.out] at HFI;have HZ:=Lib.hid (fun h=>HE.out.symm.trans (Y7k (s:=s) (need:=need) h));have HRE:Hid (Q7o s need = if Q7l s need = 0 then (if need <= Y3l s then 7 else 0) else Q7l s need):=Lib.hid rfl
 have HRG:Hid (X1r s need = if Q7o s need = 0 then Q4q s else []):=Lib.hid rfl
 obtain ⟨F,hFv⟩:∃ F,Q7l s need = F:=⟨_,rfl⟩;rw [hFv] at HFI HZ HRE;clear hx5 hE hR hFv
 by_cases hf:F = 0
 . have hne:(F != 0) = false:=by simp [hf]
   have hV:Q0m s:=Q0m.of (HE.out.trans (HZ.out hf));rw [if_pos hf] at HRE;have hx6:=HXR.out.trans (Ext.box w5 (.cells #[.int .i64 E,.int .i64 R] 34));have hk6:=K0.out.ext hx6;have HGR:=Lib.hid (Z2v (w5.alloc (.cells #[.int .i64 E,.int .i64 R] 34)) _ s ⟨_,_,rfl,H2.out.ext (HXW.out.trans hx6)⟩ hV);have HX6:=Lib.hid (HXW.out.trans hx6);obtain ⟨bd,hbd⟩:∃ x,Y3l s = x:=⟨_,rfl⟩;rw [hbd] at HRE HGR;clear hx6 hV hbd;have c0:=(hk6).cell 0;have c1:=(hk6).cell 1;have c2:=(hk6).cell 2;simp only [Go.Tw.gA,Go.Tw.gB,Go.Tw.gC] at c0 c1 c2;clear hk6;go_wp2_with (first | (go_at_call 56; refine HNE.out.mono ?_; rintro e w6 ⟨rfl,rfl⟩) | (go_at_call 45; refine HFI.out.mono ?_; rintro e w7 ⟨rfl,rfl⟩) | (go_at_call 63; refine HGR.out.mono ?_; rintro e w8 ⟨x,rfl,h1,h2⟩; refine halted ?_))
   have HI:=Lib.hid h1;have HX8:=Lib.hid (HX6.out.trans h2);clear h1 h2 c0 c1 c2;unfold Q1x
   by_cases hb:need <= bd
   . have hre:Q7o s need = 7:=by rw [HRE.out,if_pos hb]
     have hrg:X1r s need = []:=by rw [HRG.out,hre]; rfl
     have HA:=Lib.hid hre;have HB:=Lib.hid hrg;clear HRE HRG hre hrg;go_wp2;refine bodyPost_ret (results_tmp2 Tryz.results27 _ _ _) rfl ?_;exact ⟨_,by rw [HA.out]; rfl,by rw [HB.out]; exact Z4w _,HX8.out⟩
   . have hre:Q7o s need = 0:=by rw [HRE.out,if_neg hb]
     have hrg:X1r s need = Q4q s:=by rw [HRG.out,hre]; rfl
     have HA:=Lib.hid hre;have HB:=Lib.hid hrg;clear HRE HRG hre hrg;go_wp2;refine bodyPost_ret (results_tmp2 Tryz.results27 _ _ _) rfl ?_;exact ⟨_,by rw [HA.out]; rfl,by rw [HB.out]; exact HI.out,HX8.out⟩
 . have hne:(F != 0) = true:=by simp [hf]
   have hre:Q7o s need = F:=by rw [HRE.out,if_neg hf]
   have hrg:X1r s need = []:=by rw [HRG.out,hre,if_neg hf]
   have HA:=Lib.hid hre;have HB:=Lib.hid hrg;have HX6:=Lib.hid (HXW.out.trans (HXR.out.trans (Ext.box w5 (.cells #[.int .i64 E,.int .i64 R] 34))));clear HRE HRG hre hrg hf;go_wp2_with (first | (go_at_call 56; refine HNE.out.mono ?_; rintro e w6 ⟨rfl,rfl⟩) | (go_at_call 45; refine HFI.out.mono ?_; rintro e w7 ⟨rfl,rfl⟩))
   refine bodyPost_ret (results_tmp2 Tryz.results27 _ _ _) rfl ?_;exact ⟨_,by rw [HA.out]; rfl,by rw [HB.out]; exact Z4w _,HX6.out⟩
end Go.Proofs
namespace Go.Proofs
open Go.RowKit Go.Tw Go.Flow
attribute [local go_sem] Oper.semAt_some
def J6i (s:Q0b) (c:Bool) (k:Nat) (qs:List (Value × Rul)):Prop:=qs.map (fun q=>q.2.classes) = s.hist /\ ∀ j (h:j < qs.length),j < k -> qs[j].2.close = c
theorem J6i.start {s:Q0b} {c:Bool} {qs:List (Value × Rul)} (h:qs.map (·.2) = X9n s 0):J6i s c 0 qs:=by
 refine ⟨?_,fun j _ h=>absurd h (Nat.not_lt_zero _)⟩;have h1:qs.map (fun q=>q.2.classes) = (qs.map (·.2)).map Rul.classes:=by rw [List.map_map]; rfl
 rw [h1,h];unfold X9n;rw [List.map_map]
 apply List.ext_getElem
 . simp
 . intro i h1 h2
   simp [h2]
theorem J6i.step {s:Q0b} {c:Bool} {k:Nat} {qs:List (Value × Rul)} (h:J6i s c k qs) (hk:k < qs.length):J6i s c (k + 1) (qs.set k (qs[k].1,⟨qs[k].2.classes,c⟩)):=by
 obtain ⟨h1,h2⟩:=h;refine ⟨?_,fun j hj hjk=>?_⟩
 . rw [<- h1,List.map_set]
   apply List.ext_getElem
   . simp
   . intro i g1 g2
     rw [List.getElem_set]
     split
     . rename_i e; subst e; simp
     . rfl
 . rw [List.getElem_set]
   split
   . rfl
   . exact h2 j (by simpa using hj) (by omega)
theorem J6i.all {s:Q0b} {c:Bool} {qs:List (Value × Rul)} (h:J6i s c qs.length qs):qs.map (·.2) = always s c:=by
 obtain ⟨h1,h2⟩:=h;unfold always;rw [<- h1,List.map_map];refine List.map_congr_left fun q hq=>?_;obtain ⟨j,hj,rfl⟩:=List.getElem_of_mem hq;have:=h2 j hj hj;show qs[j].2 = ⟨qs[j].2.classes,c⟩;rw [<- this]
theorem RuR.put {w:World} {qs:List (Value × Rul)} {k:Nat} {c:Bool} (h:RuR w qs) (hk:k < qs.length):RuR w (qs.set k (qs[k].1,⟨qs[k].2.classes,c⟩)):=by
 intro q hq
 rcases List.mem_or_eq_of_mem_set hq with hq | rfl
 . exact h q hq
 . exact (show Q0i w 0 3 (.int .i64) qs[k].1 qs[k].2.classes from h _ (List.getElem_mem hk))
end Go.Proofs
namespace Go.Proofs
open Go.RowKit Go.Tw Go.Flow
attribute [local go_sem] Oper.semAt_some
theorem J7m.policy {s:Q0b} (hS:Q0m s) {n:Nat} {w w':World} {x:Value} (h:J7m 66 w w' x (X9n s n)):Q6d w' x (X9n s n):=by
 refine h.is (by have:=Z4p hS; rw [J1f]; omega) fun r hr=>?_
 unfold X9n at hr;obtain ⟨i,hi,rfl⟩:=List.mem_map.1 hr;have hi':=List.mem_range.1 hi;have:=Y0b hS _ (List.getElem_mem hi');show (s.hist.getD i []).length <= 4096;rw [Q0y _ hi']; omega
end Go.Proofs
namespace Go.Proofs
open Go.RowKit Go.Tw Go.Flow
attribute [local go_sem] Oper.semAt_some
structure K0r (s:Q0b) (need:Int) (F b c d:Int) (x:Option Plan):Prop where
 f:Y6q s need = F
 x:X0f s need = x
end Go.Proofs
namespace Go.Proofs
open Go.Tw Go.RowKit
theorem _root_.Go.RowKit.Below.ext {a b c:World} (h:Below a.heap.size a b) (k:Ext b c):Below a.heap.size a c:=(show Ext a b from h).trans k
structure K0m (s:Q0b) (need m n1 d1 n2 d2 e3:Int):Prop where
 two:(e3 = 24 /\ ¬ need <= m) ∨ (e3 = 0 /\ need <= m /\ (n2 < n1 ∨ n2 = n1 /\ d2 <= d1))
 best:∀ p,need <= Q6b s (X9b s p) -> e3 = 0 /\ (n2 < Q3j s p ∨ n2 = Q3j s p /\ d2 <= X1f s p)
end Go.Proofs
namespace Go.Proofs
open Go.RowKit Go.Tw Go.Flow
theorem GrR.put {w:World} {qs:List (Value × Grp)} {x:Int} (h:GrR w qs) (h0:0 < qs.length):GrR w (qs.set 0 (qs[0].1,⟨qs[0].2.members,x⟩)):=by
 intro q hq
 rcases List.mem_or_eq_of_mem_set hq with hq | rfl
 . exact h q hq
 . exact (show Q0i w 0 3 (.int .i64) qs[0].1 qs[0].2.members from h _ (List.getElem_mem h0))
end Go.Proofs
namespace Go.Tw
def Z8p (k:Nat):Code -> Bool
 | .region n _ _=>Nat.beq n k
 | .seq a _=>Z8p k a
 | _=>false
def J5f (k:Nat):Code -> Option Code
 | .seq a b=>if Z8p k a = true then some (.seq a b) else J5f k b
 | _=>none
noncomputable def codeFrom (fn:Func) (k:Nat):Code:=((fn.body.bind (J5f k)).getD .skip)
end Go.Tw
namespace Go.Tw
def X6b (k:Nat):Code -> Option Code
 | .seq a b=>if Z8p k a = true then some (.seq a b) else match X6b k a with
   | some c=>some c
   | none=>X6b k b
 | .region n o d=>if Nat.beq n k = true then some (.region n o d) else none
 | .cond _ a b=>match X6b k a with
   | some c=>some c
   | none=>X6b k b
 | .block _ a=>X6b k a
 | .loop a=>X6b k a
 | .scope a=>X6b k a
 | _=>none
noncomputable def J5l (fn:Func) (k:Nat):Code:=((fn.body.bind (X6b k)).getD .skip)
end Go.Tw
namespace Go.Proofs
open Go.RowKit Go.Tw Go.Flow Go.Ba
attribute [local go_sem] Oper.semAt_some
def OwnB (w:World) (v:Value) (l:List Bool):Prop:=Q0i w 0 4 .bool v l
theorem OwnB.ext {w w':World} {v:Value} {l:List Bool} (h:OwnB w v l) (hx:Ext w w'):OwnB w' v l:=Q0i.below h hx
theorem OwnB.of {w:World} {v:Value} {l:List Bool} (h:Q0i w 0 4 .bool v l):OwnB w v l:=h
theorem Tryz.J9a (w:World):(isAgg 77).run Tryz.prog w = .ok true w:=by kernel_rfl
theorem OwnB.bools {w:World} {v:Value} {l:List Bool} (h:OwnB w v l) (hl:l.length <= 1000):Q2k w v l:=Q0i.bools h (by omega)
theorem J4o {s:Q0b} (hv:Q0m s) {i:Nat} (hi:i < s.members.length) {n:Nat} (hn:n <= s.ships.length):Y7c (Q1k s i) n:=by
 obtain ⟨-,l2,l3⟩:=hv.shaped i hi;refine ⟨fun k hk=>?_,fun k hk=>?_,by have:=hv.tides; omega⟩
 . have hlt:k < (Q0s s.members i).length:=by omega
   have:=hv.inflow i hi _ (List.getElem_mem hlt);show 0 <= ix (Q0s s.members i) k /\ ix (Q0s s.members i) k <= 1024;rw [Q5p hlt]; exact this
 . have hlt:k < (Q0n s.members i).length:=by omega
   have:=hv.outside i hi _ (List.getElem_mem hlt);show 0 <= ix (Q0n s.members i) k /\ ix (Q0n s.members i) k <= 1024;rw [Q5p hlt]; exact this
def X0b (s:Q0b) (i:Nat) (cl:List Bool):List Cond:=Q1i (Q1k s i).outside (Q1k s i).inflow cl cl.length
theorem Z7h (s:Q0b) (i:Nat) (cl:List Bool):(X0b s i cl).length = 2 * cl.length:=Q3g _ _ _ _
theorem J3a:Bnd [0] 100000000:=fun k=>by
 cases k with
 | zero=>exact ⟨by decide,by decide⟩
 | succ k=>rw [Z8j (V:=[0]) (by simp)]; exact ⟨by decide,by decide⟩
end Go.Proofs
namespace Go.Proofs
open Go.RowKit Go.Tw Go.Flow
attribute [local go_sem] Oper.semAt_some
def ApM (q r:MV):Prop:=∀ b,(q.2.1.ownBlock = some b -> r.2.1.ownBlock ≠ some b /\ r.2.2.1.ownBlock ≠ some b /\ r.2.2.2.ownBlock ≠ some b) /\ (r.2.1.ownBlock = some b -> q.2.2.1.ownBlock ≠ some b /\ q.2.2.2.ownBlock ≠ some b)
def StQ (B:Nat) (uv:Value) (q:MV):Prop:=∀ b,(q.2.1.ownBlock = some b -> B <= b /\ q.2.2.1.ownBlock ≠ some b /\ q.2.2.2.ownBlock ≠ some b /\ uv.ownBlock ≠ some b) /\ (q.2.2.1.ownBlock = some b -> B <= b) /\ (q.2.2.2.ownBlock = some b -> B <= b)
structure StA (B:Nat) (uv:Value) (qs:List MV):Prop where
 u:∀ b,uv.ownBlock = some b -> B <= b
 q:∀ q ∈ qs,StQ B uv q
 p:qs.Pairwise ApM
theorem StA.snoc {w:World} {B:Nat} {uv:Value} {sh:List Int} {qs:List MV} (h:StA B uv qs) (hu:Q0i w 0 3 (.int .i64) uv sh) (hm:J2c w qs) (hB:B <= w.heap.size) (m:Mem) (x y z:Value)
    (hx:∀ b,x.ownBlock = some b -> w.heap.size <= b /\ y.ownBlock ≠ some b /\ z.ownBlock ≠ some b) (hy:∀ b,y.ownBlock = some b -> w.heap.size <= b) (hz:∀ b,z.ownBlock = some b -> w.heap.size <= b):StA B uv (qs ++ [(m,x,y,z)]):=by
 refine ⟨h.u,fun q hq=>?_,List.pairwise_append.2 ⟨h.p,List.pairwise_singleton _ _,fun q hq r hr=>?_⟩⟩
 . rcases List.mem_append.1 hq with hq | hq
   . exact h.q q hq
   . rw [List.mem_singleton.1 hq]
     refine fun b=>⟨fun hb=>?_,fun hb=>Nat.le_trans hB (hy b hb),fun hb=>Nat.le_trans hB (hz b hb)⟩;obtain ⟨h1,h2,h3⟩:=hx b hb;exact ⟨Nat.le_trans hB h1,h2,h3,fun hub=>by have:=(World.ownsRow.lt hu b hub).2; omega⟩
 . rw [List.mem_singleton.1 hr]
   have hq:=hm q hq;refine fun b=>⟨fun hb=>?_,fun hb=>?_⟩
   . have hlt:=(World.ownsRow.lt hq.c b hb).2
     exact ⟨fun h=>by have:=(hx b h).1; omega,fun h=>by have:=hy b h; omega,fun h=>by have:=hz b h; omega⟩
   . have hge:=(hx b hb).1
     exact ⟨fun h=>by have:=(World.ownsRow.lt hq.o b h).2; omega,fun h=>by have:=(World.ownsRow.lt hq.i b h).2; omega⟩
structure X7h (w:World) (B E:Nat) (uv xv:Value) (sh:List Int) (qs:List MV):Prop where
 u:Q0i w 0 3 (.int .i64) uv sh
 x:Q0u w B 90 5 Q9j xv qs
 m:J2c w qs
 s:StA B uv qs
 e:∀ b,(uv.ownBlock = some b -> b < E) /\ (xv.ownBlock = some b -> b < E) /\ ∀ q ∈ qs,(q.2.1.ownBlock = some b -> b < E) /\ (q.2.2.1.ownBlock = some b -> b < E) /\ (q.2.2.2.ownBlock = some b -> b < E)
theorem X7h.of {w:World} {B:Nat} {uv xv:Value} {sh:List Int} {qs:List MV} (u:Q0i w 0 3 (.int .i64) uv sh) (x:Q0u w B 90 5 Q9j xv qs) (m:J2c w qs) (s:StA B uv qs):X7h w B w.heap.size uv xv sh qs :=
 ⟨u,x,m,s,fun b=>⟨fun h=>(World.ownsRow.lt u b h).2,fun h=>(World.ownsRow.lt x b h).2,fun q hq=>⟨fun h=>(World.ownsRow.lt (m q hq).c b h).2,fun h=>(World.ownsRow.lt (m q hq).o b h).2,fun h=>(World.ownsRow.lt (m q hq).i b h).2⟩⟩⟩
theorem X7h.ext {w w':World} {B E:Nat} {uv xv:Value} {sh:List Int} {qs:List MV} (h:X7h w B E uv xv sh qs) (hx:Ext w w'):X7h w' B E uv xv sh qs:=⟨h.u.below hx,h.x.below hx,fun q hq=>(h.m q hq).ext hx,h.s,h.e⟩
theorem Q5z {w w':World} {base size n:Nat} {e:TypeId} {v:Value} {xs:List Value} (h:w.ownsRow base e size v n xs) (ho:∀ b,v.ownBlock = some b -> w'.heap[b]? = w.heap[b]?):w'.ownsRow base e size v n xs:=by
 obtain ⟨h1,h2⟩:=h;refine ⟨h1,?_⟩
 rcases h2 with h2 | ⟨g,cap,cur,hv,hbb,hg,r⟩
 . exact .inl h2
 . refine .inr ⟨g,cap,cur,hv,hbb,?_,r⟩
   rw [ho g (by rw [hv]; rfl)]; exact hg
theorem Y9f {w w':World} {base size n b:Nat} {e S:TypeId} {v:Value} {xs:List Value} {cs:Array Value} (h:w.ownsRow base e size v n xs) (hb:Blk w b S cs) (hT:S ≠ e) (ho:∀ k,k ≠ b -> w'.heap[k]? = w.heap[k]?):w'.ownsRow base e size v n xs:=by
 obtain ⟨h1,h2⟩:=h;refine ⟨h1,?_⟩
 rcases h2 with h2 | ⟨g,cap,cur,hv,hbb,hg,r⟩
 . exact .inl h2
 . refine .inr ⟨g,cap,cur,hv,hbb,?_,r⟩
   rw [ho g ?_]; exact hg;rintro rfl;unfold Blk at hb;rw [hb] at hg;injection hg with hg;injection hg with _ h3 _;exact hT h3
theorem X7h.same {w w':World} {B E:Nat} {uv xv:Value} {sh:List Int} {qs:List MV} (h:X7h w B E uv xv sh qs) (ho:∀ k,B <= k -> k < E -> w'.heap[k]? = w.heap[k]?):X7h w' B E uv xv sh qs :=
 ⟨Q5z h.u (fun b hv=>ho b (h.s.u b hv) ((h.e b).1 hv)),Q5z h.x (fun b hv=>ho b (World.ownsRow.lt h.x b hv).1 ((h.e b).2.1 hv)),
  fun q hq=>⟨Q5z (h.m q hq).c (fun b hv=>ho b ((h.s.q q hq b).1 hv).1 (((h.e b).2.2 q hq).1 hv)),Q5z (h.m q hq).o (fun b hv=>ho b ((h.s.q q hq b).2.1 hv) (((h.e b).2.2 q hq).2.1 hv)),Q5z (h.m q hq).i (fun b hv=>ho b ((h.s.q q hq b).2.2 hv) (((h.e b).2.2 q hq).2.2 hv))⟩,h.s,h.e⟩
theorem X7h.ty {w w':World} {B E b:Nat} {S:TypeId} {cs:Array Value} {uv xv:Value} {sh:List Int} {qs:List MV} (h:X7h w B E uv xv sh qs) (hb:Blk w b S cs) (h1:S ≠ 3) (h2:S ≠ 90) (ho:∀ k,k ≠ b -> w'.heap[k]? = w.heap[k]?):X7h w' B E uv xv sh qs :=
 ⟨Y9f h.u hb h1 ho,Y9f h.x hb h2 ho,fun q hq=>⟨Y9f (h.m q hq).c hb h1 ho,Y9f (h.m q hq).o hb h1 ho,Y9f (h.m q hq).i hb h1 ho⟩,h.s,h.e⟩
theorem X7h.at {w:World} {B E:Nat} {uv xv:Value} {sh:List Int} {qs:List MV} (h:X7h w B E uv xv sh qs) {i t:Nat} (hi:i < qs.length) (ht:t < qs[i].1.classes.length) :
    ∃ g c b d cs,xv = .slice (some ⟨g,0,none⟩) qs.length c /\ w.cell? ⟨g,i * 5 + 2,none⟩ = some (.slice (some ⟨b,0,none⟩) qs[i].1.classes.length d) /\ B <= b /\ b < E /\ Blk w b 3 cs /\ t < cs.size /\
     ∀ (w':World) (z:Int),Blk w' b 3 (cs.setIfInBounds t (.int .i64 z)) -> (∀ k,k ≠ b -> B <= k -> k < E -> w'.heap[k]? = w.heap[k]?) -> X7h w' B E uv xv sh (qs.set i ({ qs[i].1 with classes:=qs[i].1.classes.set t z },qs[i].2)):=by
 obtain ⟨g,c,cur,hv,hB,hb,-,-,-,htk⟩:=X3f h.x (by omega)
 have hc:=Y8a X3s hb htk (i:=i) (j:=2) hi (by decide)
 have hmi:=h.m _ (List.getElem_mem hi)
 rcases hmi.c.2 with ⟨_,hn⟩ | ⟨b,d,cs,hvb,_,hbl,hcap,hmx,hsz,htt⟩
 . omega
 have hob:qs[i].2.1.ownBlock = some b:=by rw [hvb]; rfl
 have hst:=((h.s.q _ (List.getElem_mem hi)) b).1 hob;have hcs:t < cs.size:=by rw [hsz]; omega
 have hpw:=List.pairwise_iff_getElem.1 h.s.p;refine ⟨g,c,b,d,cs,hv,by rw [hc]; simp only [Q9j,List.getElem?_cons_succ,List.getElem?_cons_zero]; rw [hvb],hst.1,(((h.e b).2.2 _ (List.getElem_mem hi)).1 hob),hbl,hcs,fun w' z hb' ho=>?_⟩
 have henc:(qs.set i ({ qs[i].1 with classes:=qs[i].1.classes.set t z },qs[i].2)).flatMap Q9j = qs.flatMap Q9j:=by
  rw [List.flatMap_def,List.flatMap_def,List.map_set]
  congr 1
  apply List.ext_getElem (by simp)
  intro k h1 h2;rw [List.getElem_set]
  split
  . rename_i e; subst e; simp [Q9j]
  . rfl
 have hmem:∀ q ∈ qs.set i ({ qs[i].1 with classes:=qs[i].1.classes.set t z },qs[i].2),∃ k,∃ hk:k < qs.length,q.2 = qs[k].2 /\ ((k = i /\ q.1 = { qs[i].1 with classes:=qs[i].1.classes.set t z }) ∨ (k ≠ i /\ q.1 = qs[k].1)):=by
  intro q hq;obtain ⟨k,hk,rfl⟩:=List.getElem_of_mem hq;have hk2:k < qs.length:=by simpa using hk
  refine ⟨k,hk2,?_⟩;rw [List.getElem_set]
  by_cases e:i = k
  . subst e; rw [if_pos rfl]; exact ⟨rfl,.inl ⟨rfl,rfl⟩⟩
  . rw [if_neg e]; exact ⟨rfl,.inr ⟨fun h=>e h.symm,rfl⟩⟩
 have kc:∀ {q:MV},q ∈ qs -> q.2.1.ownBlock ≠ some b -> ∀ b',q.2.1.ownBlock = some b' -> w'.heap[b']? = w.heap[b']?:=fun hq hne b' hv=>ho b' (fun e=>hne (e ▸ hv)) ((h.s.q _ hq b').1 hv).1 (((h.e b').2.2 _ hq).1 hv);have ko:∀ {q:MV},q ∈ qs -> q.2.2.1.ownBlock ≠ some b -> ∀ b',q.2.2.1.ownBlock = some b' -> w'.heap[b']? = w.heap[b']?:=fun hq hne b' hv=>ho b' (fun e=>hne (e ▸ hv)) ((h.s.q _ hq b').2.1 hv) (((h.e b').2.2 _ hq).2.1 hv);have ki:∀ {q:MV},q ∈ qs -> q.2.2.2.ownBlock ≠ some b -> ∀ b',q.2.2.2.ownBlock = some b' -> w'.heap[b']? = w.heap[b']?:=fun hq hne b' hv=>ho b' (fun e=>hne (e ▸ hv)) ((h.s.q _ hq b').2.2 hv) (((h.e b').2.2 _ hq).2.2 hv);refine ⟨Q5z h.u (fun b' hv=>ho b' (fun e=>hst.2.2.2 (e ▸ hv)) (h.s.u b' hv) ((h.e b').1 hv)),?_,fun q hq=>?_,⟨h.s.u,fun q hq=>?_,?_⟩,fun k=>⟨(h.e k).1,(h.e k).2.1,fun q hq=>?_⟩⟩
 . have hxb:xv.ownBlock ≠ some b:=by
    intro hxb;have:g = b:=by rw [hv] at hxb; injection hxb
    subst this;unfold Blk at hb;rw [hb] at hbl;injection hbl with hbl;injection hbl with _ h3 _;exact absurd h3 (by decide)
   have hx2:=Q5z h.x (w':=w') (fun b' hv=>ho b' (fun e=>hxb (e ▸ hv)) (World.ownsRow.lt h.x b' hv).1 ((h.e b').2.1 hv));unfold Q0u at hx2 ⊢;rw [henc,List.length_set];exact hx2
 . obtain ⟨k,hk,e2,hor⟩:=hmem q hq
   have hmk:=h.m _ (List.getElem_mem hk);have ho1:qs[k].2.2.1.ownBlock ≠ some b:=by
    rcases Nat.lt_trichotomy k i with hlt | he | hlt
    . exact ((hpw k i hk hi hlt) b).2 hob |>.1
    . subst he; exact hst.2.1
    . exact (((hpw i k hi hk hlt) b).1 hob).2.1
   have ho2:qs[k].2.2.2.ownBlock ≠ some b:=by
    rcases Nat.lt_trichotomy k i with hlt | he | hlt
    . exact ((hpw k i hk hi hlt) b).2 hob |>.2
    . subst he; exact hst.2.2.1
    . exact (((hpw i k hi hk hlt) b).1 hob).2.2
   rcases hor with ⟨rfl,e1⟩ | ⟨hne,e1⟩
   . refine ⟨?_,?_,?_⟩
     . rw [e1,e2]
       refine ⟨by simp,.inr ⟨b,d,_,by rw [hvb]; simp,Nat.zero_le _,hb',by simpa using hcap,hmx,by simpa using hsz,?_⟩⟩
       simp only [List.length_set,Array.toList_setIfInBounds,List.take_set,htt,List.map_set]
     . rw [e1,e2]; exact Q5z hmk.o (ko (List.getElem_mem hk) ho1)
     . rw [e1,e2]; exact Q5z hmk.i (ki (List.getElem_mem hk) ho2)
   . have hoc:qs[k].2.1.ownBlock ≠ some b:=by
      rcases Nat.lt_trichotomy k i with hlt | he | hlt
      . intro hkb; exact (((hpw k i hk hi hlt) b).1 hkb).1 hob
      . exact absurd he hne
      . exact (((hpw i k hi hk hlt) b).1 hob).1
     refine ⟨?_,?_,?_⟩
     . rw [e1,e2]; exact Q5z hmk.c (kc (List.getElem_mem hk) hoc)
     . rw [e1,e2]; exact Q5z hmk.o (ko (List.getElem_mem hk) ho1)
     . rw [e1,e2]; exact Q5z hmk.i (ki (List.getElem_mem hk) ho2)
 . obtain ⟨k,hk,e2,-⟩:=hmem q hq
   have:=h.s.q _ (List.getElem_mem hk);unfold StQ at this ⊢;rw [e2]; exact this
 . rw [List.pairwise_iff_getElem]
   intro j k hj hk hjk;have hj2:j < qs.length:=by simpa using hj
   have hk2:k < qs.length:=by simpa using hk
   have e:∀ m (hm:m < qs.length) (hm2:m < (qs.set i ({ qs[i].1 with classes:=qs[i].1.classes.set t z },qs[i].2)).length),(qs.set i ({ qs[i].1 with classes:=qs[i].1.classes.set t z },qs[i].2))[m].2 = qs[m].2:=by
    intro m hm hm2;rw [List.getElem_set]
    split
    . rename_i e; subst e; rfl
    . rfl
   have:=hpw j k hj2 hk2 hjk;unfold ApM at this ⊢;rw [e j hj2,e k hk2]; exact this
 . obtain ⟨k',hk,e2,-⟩:=hmem q hq
   rw [e2]; exact (h.e k).2.2 _ (List.getElem_mem hk)
theorem X7h.Q9v {w:World} {B E:Nat} {uv xv:Value} {s:Q0b} {qs:List MV} (h:X7h w B E uv xv s.ships qs) (hm:qs.map (·.1) = s.members) (hs:Q2x s) (hn:∀ k,k < s.members.length -> Short (Q1d s.members k)):Q0p w (.agg #[.int .i64 s.limit,uv,xv]) s:=by
 have hl:qs.length = s.members.length:=by rw [<- hm,List.length_map]
 have hsm:∀ q ∈ qs,Short q.1.name /\ q.1.classes.length <= 1000 /\ q.1.outside.length <= 1000 /\ q.1.inflow.length <= 1000:=fun q hq=>by
  have hq2:q.1 ∈ s.members:=by rw [<- hm]; exact List.mem_map_of_mem hq
  obtain ⟨j,hj,he⟩:=List.getElem_of_mem hq2;have hsn:=hn j hj;obtain ⟨-,h1,h2,h3⟩:=hs.each j hj;unfold Q1d at hsn;unfold Q0d at h1;unfold Q0n at h2;unfold Q0s at h3;rw [Q0y _ hj,he] at hsn h1 h2 h3;exact ⟨hsn,by omega,by omega,by omega⟩
 have h7:=hs.ships;have h9:=hs.members;refine ⟨_,_,rfl,⟨h.u.ints (by omega),?_⟩⟩
 have h2:=Y9l h.x (by rw [hl]; omega) h.m hsm
 rw [hm] at h2;exact h2
end Go.Proofs
namespace Go.Flow
open Go.RowKit Go.Tw
def J9g (news:List Nat) (v:Nat -> Value):Prop:=∀ i ∈ news,∀ k ∈ news,i ≠ k -> ∀ g,(v i).ownBlock = some g -> (v k).ownBlock ≠ some g
structure K0j (ops:Array Oper) (pre:Nat -> List Nat) (Rel:World -> World -> Prop) (D:Nat -> (Nat -> Value) -> World -> Prop) (E:Nat -> (Nat -> Value) -> World -> World -> Prop) (tail:List Nat) (news:List Nat) (a0:Act) (w0:World) (X:Nat -> Bool) (v:Nat -> Value) (w1:World) (c:Nat) (a:Act) (w:World):Prop where
 act:a = act X v ops.toList 0 a0
 rel:Rel w0 w1
 facts:∀ k,X k = true -> k ∉ tail -> D k (mask pre k v) w1
 count:c <= tail.length
 before:∀ i (h:i < tail.length),i < c -> X tail[i] = true
 after:∀ i (h:i < tail.length),c <= i -> X tail[i] = false
 last:Tail pre tail E c v w1 w
 newIn:∀ i ∈ news,X i = true -> ∀ g,(v i).ownBlock = some g -> g < w1.heap.size
 newNe:∀ i ∈ news,∀ k ∈ news,i ≠ k -> X i = true -> X k = true -> ∀ g,(v i).ownBlock = some g -> (v k).ownBlock ≠ some g
def Z9b (P:Program) (pre:Nat -> List Nat) (w0:World) (D:Nat -> (Nat -> Value) -> World -> Prop) (news:List Nat):List Oper -> List Nat -> ((Nat -> Value) -> Act) -> Prop
 | o :: l,j :: jl,b =>
   (match news.contains j with
   | true=>o.guard = none /\ ∀ v w1,Ext w0 w1 -> Facts pre D v w1 (pre j) (∀ bb,bb = b v -> ∃ u w',(execOp bb.eval o).run P w1 = .ok (.value u) w' /\ ∀ g,u.ownBlock = some g -> w1.heap.size <= g /\ g < w'.heap.size)
   | false=>True) /\ Z9b P pre w0 D news l jl (fun v=>(b v).put o.dst (v j))
 | _,_,_=>True
theorem Z3v {P:Program} {pre:Nat -> List Nat} {w0:World} {D:Nat -> (Nat -> Value) -> World -> Prop} {news:List Nat} :
    ∀ (l:List Oper) (i:Nat) (b:(Nat -> Value) -> Act),Z9b P pre w0 D news l (List.range' i l.length) b -> ∀ j o,l[j]? = some o -> i + j ∈ news ->
     o.guard = none /\ ∀ v w1,Ext w0 w1 -> (∀ k ∈ pre (i + j),D k (mask pre k v) w1) -> ∃ u w',(execOp (act (fun _=>true) v (l.take j) i (b v)).eval o).run P w1 = .ok (.value u) w' /\ ∀ g,u.ownBlock = some g -> w1.heap.size <= g /\ g < w'.heap.size
 | [],_,_,_,j,_,h,_=>by simp at h
 | o :: l,i,b,h,j,o',hj,hm=>by
   rw [List.length_cons,List.range'_succ] at h;cases j with
   | zero =>
     simp only [List.getElem?_cons_zero,Option.some.injEq] at hj;subst hj;obtain ⟨h1,-⟩:=h;have hc:news.contains i = true:=by simpa using hm
     rw [hc] at h1;refine ⟨h1.1,fun v w1 hx hf=>?_⟩
     simpa [act] using (h1.2 v w1 hx).out (by simpa using hf) _ rfl
   | succ j =>
     have:=Z3v l (i + 1) _ h.2 j o' (by simpa using hj) (by rwa [show i + 1 + j = i + (j + 1) from by omega])
     rw [show i + 1 + j = i + (j + 1) from by omega] at this
     simpa [act] using this
section
variable {P:Program} {ops:Array Oper} {pre:Nat -> List Nat}
theorem Y0w (news:List Nat) (tail:List Nat) (kind:Nat -> Kind) {Rel:World -> World -> Prop} {D:Nat -> (Nat -> Value) -> World -> Prop} {E:Nat -> (Nat -> Value) -> World -> World -> Prop}
    {id:Nat} {Q:Exit -> Act -> World -> Prop} {a0:Act} {w:World} (hm:P.follows .mixedOrders = true) (hok:Ok ops pre)
    (htail:∀ i (h:i < tail.length),tail[i] < ops.size) (hchain:∀ i k (hi:i < tail.length) (hk:k < tail.length),i < k -> tail[i] ∈ pre tail[k])
    (hlate:∀ j,j < ops.size -> j ∉ tail -> ∀ k ∈ pre j,k ∉ tail) (hkind:∀ j,j < ops.size -> (kind j = .last ↔ j ∈ tail)) (hearly:∀ j,j < ops.size -> kind j = .world -> ∀ s ∈ tail,j ∈ pre s)
    (hrefl:∀ w,Rel w w) (htrans:∀ a b c,Rel a b -> Rel b c -> Rel a c) (hmono:∀ k,k < ops.size -> ∀ v w w',Rel w w' -> D k v w -> D k v w')
    (hvc:∀ j o,ops[j]? = some o -> j ∉ tail -> ∀ v w1,Rel w.drew w1 -> (∀ k ∈ pre j,D k (mask pre k v) w1) -> vc P ops pre Rel D (fun _ _ _=>False) (fun _ _ _=>False) (kind j) o j (act (fun k=>decide (k < j)) v ops.toList 0 a0) v w1)
    (hvl:∀ c (hc:c < tail.length) o,ops[tail[c]]? = some o -> ∀ v w1,Rel w.drew w1 -> (∀ k ∈ pre tail[c],k ∉ tail -> D k (mask pre k v) w1) -> vc P ops pre Rel D (Tail pre tail E c) (E c) .last o tail[c] (act (fun k=>decide (k < tail[c])) v ops.toList 0 a0) v w1)
    (hnews:∀ j ∈ news,j < ops.size /\ kind j = .world /\ ∀ o,ops[j]? = some o -> o.guard = none /\ ∀ v w1,Rel w.drew w1 -> (∀ k ∈ pre j,D k (mask pre k v) w1) -> ∃ u w',(execOp (act (fun k=>decide (k < j)) v ops.toList 0 a0).eval o).run P w1 = .ok (.value u) w' /\ ∀ g,u.ownBlock = some g -> w1.heap.size <= g /\ g < w'.heap.size) (hrsz:∀ a b,Rel a b -> a.heap.size <= b.heap.size)
    (hpost:∀ v w1 w',Rel w.drew w1 -> J9g news v -> (∀ k,k < ops.size -> k ∉ tail -> D k (mask pre k v) w1) -> Tail pre tail E tail.length v w1 w' -> Q .normal (act (fun _=>true) v ops.toList 0 a0) w') :
    (Code.region id ops true).wp P Q a0 w:=by
 refine wp_region_any hm ?_;have hclosed:∀ (X:Nat -> Bool),(∀ j o,ops[j]? = some o -> X j = true -> ∀ e ∈ o.after,Region.binds .any e = true -> X e.on = true) ->
     ∀ j o,ops[j]? = some o -> (∀ e ∈ o.after,Region.binds .any e = true -> X e.on = true) -> ∀ i ∈ pre j,X i = true:=by
  intro X hX j
  induction j using Nat.strongRecOn with
  | _ j ih =>
    intro o ho hall i hi;obtain ⟨e,he,hb,hc⟩:=hok.pre j o ho i hi
    rcases hc with rfl | hc
    . exact hall e he hb
    . have hlt:=hok.edge j o ho e he hb
      have hj:j < ops.size:=(Array.getElem?_eq_some_iff.1 ho).1;have ho':ops[e.on]? = some ops[e.on]:=Array.getElem?_eq_getElem (by omega)
      exact ih e.on hlt _ ho' (hX e.on _ ho' (hall e he hb)) i hc
 have main:∀ (fuel:Nat) (listed:Array Bool) (a:Act) (wc:World),listed.size = ops.size -> left ops.size listed <= fuel ->
     (∀ j o,ops[j]? = some o -> listed.getD j false = true -> ∀ e ∈ o.after,Region.binds .any e = true -> listed.getD e.on false = true) ->
     (∃ v w1 c,K0j ops pre Rel D E tail news a0 w.drew (fun k=>listed.getD k false) v w1 c a wc) -> wpAny P .any ops Q fuel listed a wc:=by
  intro fuel;have hdone:∀ (listed:Array Bool) (a:Act) (wc:World),listed.size = ops.size ->
      (∃ v w1 c,K0j ops pre Rel D E tail news a0 w.drew (fun k=>listed.getD k false) v w1 c a wc) -> Region.ready .any ops listed = [] -> Q .normal a wc:=by
   rintro listed a wc hsz ⟨v,w1,c,hI⟩ hr;have hall:∀ j,j < ops.size -> listed.getD j false = true:=by
    intro j
    induction j using Nat.strongRecOn with
    | _ j ih =>
      intro hj;cases hx:listed.getD j false with
      | true=>rfl
      | false =>
        have hmem:j ∈ Region.ready .any ops listed:=mem_ready.2 ⟨by rw [Q2a (by omega)]; exact hx,ops[j],Array.getElem?_eq_getElem hj,fun e he hb =>
         have hlt:=hok.edge j _ (Array.getElem?_eq_getElem hj) e he hb
         ih e.on hlt (by omega)⟩
        rw [hr] at hmem;cases hmem
   have hact:a = act (fun _=>true) v ops.toList 0 a0:=by
    rw [hI.act];refine Q8u (by rw [Q1w,Q1w]) fun t=>Q4m _ _ _ _ t _ 0 _ _ rfl rfl fun k o ho _=>⟨?_,fun _=>rfl⟩
    rw [Nat.zero_add];exact hall k (by simpa using (List.getElem?_eq_some_iff.1 ho).1)
   rw [hact];refine hpost v w1 wc hI.rel (fun i hi k hk hne g hg=>hI.newNe i hi k hk hne (hall i (hnews i hi).1) (hall k (hnews k hk).1) g hg) (fun k hk hks=>hI.facts k (hall k hk) hks) ?_;have hl:=hI.last;have hc:c = tail.length:=by
    rcases Nat.lt_or_ge c tail.length with h | h
    . have h1:listed.getD tail[c] false = false:=hI.after c h (Nat.le_refl _)
      have h2:=hall _ (htail c h);rw [h2] at h1; cases h1
    . have:=hI.count; omega
   rw [hc] at hl;exact hl
  induction fuel with
  | zero =>
    intro listed a wc hsz hleft _ hI;have hr:Region.ready .any ops listed = []:=by
     refine List.eq_nil_iff_forall_not_mem.2 fun j hj=>?_;obtain ⟨hun,o,ho,_⟩:=mem_ready.1 hj;have hlt:j < ops.size:=(Array.getElem?_eq_some_iff.1 ho).1;have:=Q7b hsz hlt hun;omega
    exact ⟨hr,hdone listed a wc hsz hI hr⟩
  | succ fuel ih =>
    intro listed a wc hsz hleft hcl hI;refine ⟨hdone listed a wc hsz hI,fun j hj=>?_⟩;obtain ⟨v,w1,c,hI⟩:=hI;obtain ⟨hun,o,ho,hall⟩:=mem_ready.1 hj;have hlt:j < ops.size:=(Array.getElem?_eq_some_iff.1 ho).1;have hunf:listed.getD j false = false:=by rw [<- Q2a (by omega)]; exact hun
    have hpre:=hclosed (fun k=>listed.getD k false) hcl j o ho hall;have hol:ops.toList[j]? = some o:=by simpa using ho
    have hfree:∀ k,k < ops.size -> listed.getD k false = true -> j ∉ pre k:=by
     intro k hk hx hmem;have ho':ops[k]? = some ops[k]:=Array.getElem?_eq_getElem hk;have h2:listed.getD j false = true:=hclosed (fun k=>listed.getD k false) hcl k _ ho' (hcl k _ ho' hx) j hmem;rw [hunf] at h2; cases h2
    have hlater:∀ k o',j < k -> ops[k]? = some o' -> listed.getD k false = true -> o.apart ops o' = true:=by
     intro k o' hk ho' hx
     rcases hok.apart j k o o' hk ho ho' with h | h
     . exact h
     . exact absurd h (hfree k (Array.getElem?_eq_some_iff.1 ho').1 hx)
    have hlooks:∀ t ∈ o.looksAt ops,a.tmps[t]? = (act (fun k=>decide (k < j)) v ops.toList 0 a0).tmps[t]?:=by
     intro t ht;rw [hI.act];refine Q4m _ _ _ _ t _ 0 _ _ rfl rfl fun k o' ho' hd=>?_;rw [Nat.zero_add];refine ⟨?_,fun _=>rfl⟩;have ho'':ops[k]? = some o':=by simpa using ho'
     rcases Nat.lt_trichotomy k j with hk | hk | hk
     . simp only [hk,decide_true]
       rcases hok.apart k j o' o hk ho'' ho with h | h
       . exact absurd ht ((Oper.apart_spec h).1 t hd)
       . exact hpre k h
     . subst hk
       simp [hunf]
     . have hnlt:¬ k < j:=by omega
       simp only [hnlt,decide_false];cases hx:listed.getD k false with
       | false=>rfl
       | true=>exact absurd ht ((Oper.apart_spec (hlater k o' hk ho'' hx)).2.2 t hd)
    have hexec:execOp a.eval o = execOp (act (fun k=>decide (k < j)) v ops.toList 0 a0).eval o:=execOp_congr o (fun cs b=>hok.sel j o cs b ho) (eval_congr o hlooks);have hwant:Region.wanted o (yielded ops a.tmps) = Region.wanted o (yielded ops (act (fun k=>decide (k < j)) v ops.toList 0 a0).tmps):=Q6v o hlooks;have hput:∀ u,a.put o.dst u = act (fun k=>if k = j then true else listed.getD k false) (upd v j u) ops.toList 0 a0:=by
     intro u;rw [hI.act];refine X7l hol hunf fun k o' hk ho' hx=>?_;cases hd:o.dst with
     | none=>exact .inr rfl
     | some d=>exact .inl ((Oper.apart_spec (hlater k o' hk (by simpa using ho') hx)).2.1 d hd)
    have hX:(fun k=>(listed.setIfInBounds j true).getD k false) = fun k=>if k = j then true else listed.getD k false:=by
     funext k
     split
     . rename_i hk; subst hk; simp [hsz,hlt]
     . rename_i hk; exact getD_set_ne false (Ne.symm hk)
    have hwhich:j ∈ tail -> ∃ h:c < tail.length,tail[c] = j:=by
     intro hmem;obtain ⟨i,hi,he⟩:=List.getElem_of_mem hmem;have hci:c <= i:=by
      rcases Nat.lt_or_ge i c with h | h
      . have:=hI.before i hi h
        simp only [he] at this;rw [hunf] at this; cases this
      . exact h
     have:c = i:=by
      rcases Nat.lt_or_ge c i with h | h
      . have hx:=hpre tail[c] (by rw [<- he]; exact hchain c i (by omega) hi h)
        have h1:=hI.after c (by omega) (Nat.le_refl _)
        rw [hx] at h1; cases h1
      . omega
     subst this;exact ⟨hi,he⟩
    have hnext:∀ (u:Value) (w1' wc':World) (c':Nat),Rel w1 w1' -> (j ∉ tail -> D j (mask pre j (upd v j u)) w1') -> (j ∉ tail -> c' = c) -> (j ∈ tail -> c' = c + 1) -> (j ∈ news -> ∀ g,u.ownBlock = some g -> w1.heap.size <= g /\ g < w1'.heap.size) ->
        Tail pre tail E c' (upd v j u) w1' wc' -> wpAny P .any ops Q fuel (listed.setIfInBounds j true) (a.put o.dst u) wc':=by
     intro u w1' wc' c' hrel hD hc1 hc2 hN hE;refine ih _ _ _ (by simpa using hsz) (by have:=Q7b hsz hlt hun; omega) (fun k ok hok' hx e he hb=>?_) ⟨upd v j u,w1',c',⟨by rw [hX]; exact hput u,htrans _ _ _ hI.rel hrel,fun k hx hks=>?_,?_,fun i hi hic=>?_,fun i hi hic=>?_,hE,fun i hi hx g hg=>?_,fun i hi k hk hne hx hy g hg hgk=>?_⟩⟩
     . by_cases hkj:k = j
       . subst hkj
         rw [ho] at hok';cases hok';exact getD_set_true (hall e he hb)
       . rw [getD_set_ne false (Ne.symm hkj)] at hx
         exact getD_set_true (hcl k ok hok' hx e he hb)
     . rw [congrFun hX k] at hx
       by_cases hkj:k = j
       . subst hkj; exact hD hks
       . rw [if_neg hkj] at hx
         have hksz:k < ops.size:=by
          rcases Nat.lt_or_ge k ops.size with h | h
          . exact h
          . rw [<- hsz] at h; simp [Array.getElem?_eq_none h] at hx
         rw [Q7g (Ne.symm hkj) (hfree k hksz hx)];exact hmono k hksz _ _ _ hrel (hI.facts k hx hks)
     . by_cases hjt:j ∈ tail
       . obtain ⟨h,_⟩:=hwhich hjt
         rw [hc2 hjt]; omega
       . rw [hc1 hjt]; exact hI.count
     . rw [congrFun hX]
       by_cases hij:tail[i] = j
       . rw [if_pos hij]
       . rw [if_neg hij]
         by_cases hjt:j ∈ tail
         . obtain ⟨h,he⟩:=hwhich hjt
           rw [hc2 hjt] at hic;have:i ≠ c:=fun e=>hij (by subst e; exact he)
           exact hI.before i hi (by omega)
         . rw [hc1 hjt] at hic; exact hI.before i hi hic
     . rw [congrFun hX]
       by_cases hjt:j ∈ tail
       . obtain ⟨h,he⟩:=hwhich hjt
         rw [hc2 hjt] at hic;rw [if_neg (fun e=>by
          have h1:=hchain c i h hi (by omega)
          rw [e,he] at h1;obtain ⟨e',he',hb',hcc⟩:=hok.pre j o ho j h1;have hl:=hok.edge j o ho e' he' hb';have h2:listed.getD j false = true:=hpre j h1;rw [hunf] at h2; cases h2)]
         exact hI.after i hi (by omega)
       . rw [hc1 hjt] at hic
         rw [if_neg (fun e=>hjt (by rw [<- e]; exact List.getElem_mem hi))]
         exact hI.after i hi hic
     . rw [congrFun hX i] at hx
       by_cases hij:i = j
       . subst hij
         have e1:upd v i u i = u:=by simp [upd]
         rw [e1] at hg;exact (hN hi g hg).2
       . rw [if_neg hij] at hx
         have e1:upd v j u i = v i:=by simp [upd,hij]
         rw [e1] at hg;exact Nat.lt_of_lt_of_le (hI.newIn i hi hx g hg) (hrsz _ _ hrel)
     . rw [congrFun hX i] at hx
       rw [congrFun hX k] at hy
       by_cases hij:i = j
       . subst hij
         rw [if_neg (Ne.symm hne)] at hy;have e1:upd v i u i = u:=by simp [upd]
         have e2:upd v i u k = v k:=by simp [upd,Ne.symm hne]
         rw [e1] at hg;rw [e2] at hgk;have h1:=(hN hi g hg).1;have h2:=hI.newIn k hk hy g hgk;omega
       . rw [if_neg hij] at hx
         by_cases hkj:k = j
         . subst hkj
           have e1:upd v k u k = u:=by simp [upd]
           have e2:upd v k u i = v i:=by simp [upd,hij]
           rw [e2] at hg;rw [e1] at hgk;have h1:=(hN hk g hgk).1;have h2:=hI.newIn i hi hx g hg;omega
         . rw [if_neg hkj] at hy
           have e1:upd v j u i = v i:=by simp [upd,hij]
           have e2:upd v j u k = v k:=by simp [upd,hkj]
           rw [e1] at hg;rw [e2] at hgk;exact hI.newNe i hi k hk hne hx hy g hg hgk
    have htailkeep:j ∉ tail -> ∀ u,Tail pre tail E c (upd v j u) w1 wc:=by
     intro hjt u;have hl:=hI.last;cases c with
     | zero=>exact hl
     | succ c =>
       have hct:c < tail.length:=by have:=hI.count; omega
       change E c (mask pre (tail.getD c 0) v) w1 wc at hl;show E c (mask pre (tail.getD c 0) (upd v j u)) w1 wc;have e:tail.getD c 0 = tail[c]:=by simp [hct]
       rw [e] at hl ⊢;rw [Q7g (fun h=>hjt (by rw [h]; exact List.getElem_mem hct)) (hfree _ (htail c hct) (hI.before c hct (by omega)))]
       exact hl
    have hnone:kind j ≠ .world -> j ∉ news:=fun h1 h2=>h1 (hnews j h2).2.1;have hpass:Region.wanted o (yielded ops (act (fun k=>decide (k < j)) v ops.toList 0 a0).tmps) = false -> j ∉ news:=fun h1 h2=>by
     have h3:=((hnews j h2).2.2 o ho).1;simp [Region.wanted,h3] at h1
    unfold wpOp;simp only [ho];rw [hwant]
    by_cases hjt:j ∈ tail
    . obtain ⟨hc,he⟩:=hwhich hjt
      have hv:=hvl c hc o (by rw [he]; exact ho) v w1 hI.rel (fun k hk hkt=>hI.facts k (hpre k (by rw [<- he]; exact hk)) hkt) wc hI.last
      rw [he] at hv;have hT:∀ u w',E c (mask pre j (upd v j u)) w1 w' -> Tail pre tail E (c + 1) (upd v j u) w1 w':=by
       intro u w' h;show E c (mask pre (tail.getD c 0) (upd v j u)) w1 w';have e:tail.getD c 0 = j:=by simp [hc,he]
       rw [e]; exact h
      rcases hv with ⟨hwt,hg⟩ | ⟨hwf,hD⟩
      . rw [if_pos hwt]
        refine .inl ?_;unfold Oper.wp;rw [hexec];exact Q1l (Q3k (fun u w' h=>hnext u w1 w' (c + 1) (hrefl _) (fun h=>absurd hjt h) (fun h=>absurd hjt h) (fun _=>rfl) (fun hn=>absurd hn (hnone (by rw [(hkind j hlt).2 hjt]; simp))) (hT u w' h)) hg)
      . rw [if_neg (by rw [hwf]; simp)]
        exact hnext undef w1 wc (c + 1) (hrefl _) (fun h=>absurd hjt h) (fun h=>absurd hjt h) (fun _=>rfl) (fun hn=>absurd hn (hpass hwf)) (hT _ _ hD)
    . have hfacts:∀ k ∈ pre j,D k (mask pre k v) w1:=fun k hk=>hI.facts k (hpre k hk) (hlate j hlt hjt k hk)
      have hv:=hvc j o ho hjt v w1 hI.rel hfacts;cases hk:kind j with
      | plain =>
        rw [hk] at hv
        rcases hv with ⟨hwt,u,hrun,hD⟩ | ⟨hwf,hD⟩
        . rw [if_pos hwt]
          refine .inl ?_;unfold Oper.wp;rw [hexec,hrun wc];exact hnext u w1 wc c (hrefl _) (fun _=>hD) (fun _=>rfl) (fun h=>absurd h hjt) (fun hn=>absurd hn (hnone (by rw [hk]; simp))) (htailkeep hjt u)
        . rw [if_neg (by rw [hwf]; simp)]
          exact hnext undef w1 wc c (hrefl _) (fun _=>hD) (fun _=>rfl) (fun h=>absurd h hjt) (fun hn=>absurd hn (hpass hwf)) (htailkeep hjt undef)
      | world =>
        have hc0:c = 0:=by
         rcases Nat.eq_zero_or_pos c with h | h
         . exact h
         . have h0:0 < tail.length:=by have:=hI.count; omega
           have hx:=hI.before 0 h0 h;exact absurd (hearly j hlt hk tail[0] (List.getElem_mem h0)) (hfree _ (htail 0 h0) hx)
        subst hc0;have hwc:wc = w1:=hI.last;subst hwc;rw [hk] at hv
        rcases hv with ⟨hwt,hg⟩ | ⟨hwf,hD⟩
        . rw [if_pos hwt]
          refine .inl ?_;unfold Oper.wp;rw [hexec]
          by_cases hn:j ∈ news
          . obtain ⟨uu,ww,hrun,hfr⟩:=((hnews j hn).2.2 o ho).2 v wc hI.rel hfacts
            rw [hrun] at hg ⊢;exact Q1l (hnext _ _ _ 0 hg.1 (fun _=>hg.2) (fun _=>rfl) (fun h=>absurd h hjt) (fun _=>hfr) rfl)
          . exact Q1l (Q3k (fun u w' h=>hnext u w' w' 0 h.1 (fun _=>h.2) (fun _=>rfl) (fun h=>absurd h hjt) (fun h=>absurd h hn) rfl) hg)
        . rw [if_neg (by rw [hwf]; simp)]
          exact hnext undef wc wc 0 (hrefl _) (fun _=>hD) (fun _=>rfl) (fun h=>absurd h hjt) (fun hn=>absurd hn (hpass hwf)) rfl
      | last=>exact absurd ((hkind j hlt).1 hk) hjt
 refine main ops.size _ a0 _ (by simp) ?_ (fun j o _ hx=>?_) ⟨fun _=>undef,w.drew,0,?_,hrefl _,fun k hx=>?_,Nat.zero_le _,fun i _ h=>absurd h (Nat.not_lt_zero _),fun i _ _=>?_,rfl,fun i _ hx _ _=>?_,fun i _ _ _ _ hx _ _ _=>?_⟩
 . exact Nat.le_trans (List.countP_le_length) (by simp)
 . have:=Q1t ops.size j
   rw [this] at hx; cases hx
 . refine (Q8u (by rw [Q1w]) fun t=>?_)
   have:∀ (l:List Oper) (i:Nat) (a:Act),act (fun k=>(Array.replicate ops.size false).getD k false) (fun _=>undef) l i a = a:=by
    intro l; induction l with
    | nil=>intro i a; rfl
    | cons o l ih=>intro i a; rw [act,ih,Q1t]; rfl
   rw [this]
 . have:=Q1t ops.size k
   rw [this] at hx; cases hx
 . exact Q1t ops.size _
 . have:=Q1t ops.size i
   rw [this] at hx; cases hx
 . have:=Q1t ops.size i
   rw [this] at hx; cases hx
end
section
variable {P:Program} {id:Nat} {Q:Exit -> Act -> World -> Prop} {a0:Act} {w:World} {ops:List Oper}
theorem regionF (news:List Nat) (kl:List Kind) (jl:List Nat) (pl:List (List Nat)) (tail:List Nat) (Dl:List Spec) (El:List ((Nat -> Value) -> World -> World -> Prop))
    (hm:P.follows .mixedOrders = true) (hjl:jl = List.range' 0 ops.length) (hok:okL ops pl kl tail El.length = true)
    (hvc:Z1k P ops.toArray (lookup pl []) tail w.drew (fun k=>(lookup Dl .none k).D) El (fun _ w1 w=>w = w1) ops kl jl (fun _=>a0))
    (hnews:news.all (fun j=>decide (j < ops.length) && X1k (lookup kl .plain j)) = true) (hmade:Z9b P (lookup pl []) w.drew (fun k=>(lookup Dl .none k).D) news ops jl (fun _=>a0))
    (hpost:∀ v w1,Ext w.drew w1 -> J9g news v -> All (lookup pl []) (fun k=>(lookup Dl .none k).D) v w1 tail jl (∀ w',endOf (lookup pl []) v w1 w' tail El -> Q .normal (acts v ops jl a0) w')) :
    (Code.region id ops.toArray true).wp P Q a0 w:=by
 subst hjl;replace hvc:=X1q _ _ _ _ _ _ hvc;simp only [X8o] at hpost;simp only [okL,Bool.and_eq_true,List.all_eq_true,List.mem_range,beq_iff_eq,Bool.or_eq_true,Bool.not_eq_true',List.contains_eq_mem,decide_eq_true_eq,decide_eq_false_iff_not] at hok;obtain ⟨⟨⟨⟨⟨⟨hok,hlen⟩,htail⟩,hn⟩,hchain⟩,hlate⟩,hearly⟩:=hok;have hmem:∀ j,j ∈ tail ↔ j < ops.length /\ isLast (lookup kl .plain j) = true:=by intro j; rw [htail,List.mem_filter,List.mem_range]
 have hk:∀ j,isLast (lookup kl .plain j) = true ↔ lookup kl .plain j = .last:=by intro j; cases lookup kl .plain j <;> simp [isLast]
 have hlk:lasts kl 0 = tail:=by
  rw [X2h,htail,hlen,List.range_eq_range'];rfl
 have hEl:∀ n,n < (lasts kl 0).length -> El[n]? = some ((fun c=>(El[c]?).getD fun _ _ _=>True) (0 + n)):=by
  intro n hn';rw [hlk,<- hn] at hn';simp [hn']
 have hend:∀ v w1 w',Tail (lookup pl []) tail (fun c=>(El[c]?).getD fun _ _ _=>True) tail.length v w1 w' -> endOf (lookup pl []) v w1 w' tail El:=by
  intro v w1 w' h;have gen:∀ (tl:List Nat) (el:List ((Nat -> Value) -> World -> World -> Prop)),el.length = tl.length -> (tl = [] -> w' = w1) -> (∀ (hne:tl ≠ []),((el[tl.length - 1]?).getD fun _ _ _=>True) (mask (lookup pl []) (tl.getD (tl.length - 1) 0) v) w1 w') -> endOf (lookup pl []) v w1 w' tl el:=by
   intro tl
   induction tl with
   | nil=>intro el _ h0 _; cases el <;> exact h0 rfl
   | cons j tl ih =>
     intro el hl _ h1;cases el with
     | nil=>simp at hl
     | cons E el =>
       cases tl with
       | nil=>cases el with
         | nil=>simpa [endOf] using h1 (by simp)
         | cons _ _=>simp at hl
       | cons j' tl=>cases el with
         | nil=>simp at hl
         | cons E' el =>
           show endOf _ v w1 w' (j' :: tl) (E' :: el);exact ih _ (by simpa using hl) (fun h=>by simp at h) (fun _=>by simpa using h1 (by simp))
  refine gen tail El hn.symm.symm (fun h0=>?_) (fun hne=>?_)
  . rw [h0] at h; exact h
  . obtain ⟨m,hm⟩:∃ m,tail.length = m + 1:=⟨tail.length - 1,by have:=List.length_pos_iff.2 hne; omega⟩
    rw [hm] at h;rw [hm,Nat.add_sub_cancel];exact h
 refine Y0w news tail (lookup kl .plain) (Rel:=Ext) (D:=fun k=>(lookup Dl .none k).D) (E:=fun c=>(El[c]?).getD fun _ _ _=>True) hm (J3v hok)
  (fun i hi=>by simpa using ((hmem _).1 (List.getElem_mem hi)).1) (fun i k hi hk hik=>by have:=hchain k hk i hik; simpa [hi,hk] using this)
  (fun j hjl hjs k hk'=>?_) (fun j hjl=>?_) (fun j hjl hjw s hs=>?_)
  Ext.refl (fun _ _ _=>Ext.trans) (fun k _ v w w' hx hd=>(lookup Dl .none k).mono v w w' hx hd) (fun j o ho hjs v w1 hx hf=>?_) (fun c hc o ho v w1 hx hf=>?_) (fun j hj=>?_) (fun _ _ h=>h.size) (fun v w1 w' hx hnw hf hE=>?_)
 . rcases hlate j (by simpa using hjl) with h | h
   . exact absurd ((hmem j).2 ⟨by simpa using hjl,h⟩) hjs
   . exact h k hk'
 . rw [hmem,hk]; simp at hjl; simp [hjl]
 . rcases hearly j (by simpa using hjl) with h | h
   . rw [hjw] at h; simp [X1k] at h
   . exact h s hs
 . have hjl:j < ops.length:=by simpa using (Array.getElem?_eq_some_iff.1 ho).1
   have:=Y5k ops kl El _ 0 _ hlen hvc j o (by simpa using ho) (fun h=>hjs ((hmem j).2 ⟨hjl,(hk j).2 h⟩)) v w1 hx (by simpa using hf)
   rw [Nat.zero_add] at this;have e:=Q3c v ops 0 j a0;rw [Nat.zero_add] at e
   simpa [e] using this
 . have:=Q8i (fun c=>(El[c]?).getD fun _ _ _=>True) ops kl El 0 _ 0 hlen (by rw [hlk]; rfl) hEl hvc c (by rw [hlk]; exact hc) tail[c] o (by simp [hc]) (by simpa using ho) v w1 hx (by simpa using hf)
   rw [Nat.zero_add,Nat.zero_add] at this;have e:=Q3c v ops 0 tail[c] a0;rw [Nat.zero_add] at e
   simpa [e] using this
 . have h1:=List.all_eq_true.1 hnews j hj
   simp only [Bool.and_eq_true,decide_eq_true_eq] at h1;refine ⟨by simpa using h1.1,?_,fun o ho=>?_⟩
   have h2:=h1.2;cases hk:lookup kl .plain j <;> rw [hk] at h2 <;> first | rfl | cases h2
   have h3:=Z3v ops 0 _ hmade j o (by simpa using ho) (by simpa using hj)
   refine ⟨h3.1,fun v w1 hx hf=>?_⟩;have h4:=h3.2 v w1 hx (by simpa using hf)
   have e:=Q3c v ops 0 j a0;rw [Nat.zero_add] at e
   simpa [e] using h4
 . exact (hpost v w1 hx hnw).out (fun k hk hks=>hf k (by simpa using hk) hks) w' (hend v w1 w' hE)
end
end Go.Flow
namespace Go.Tw
open Go.RowKit Go.Flow
theorem Q5f {α:Type} {P:Program} {o:Oper} {a:Act} {w:World} (s x:Operand) (t:TypeId) (ho:o.op = .call { callee:=.builtin .append,args:=#[s,x],argTypes:=#[t,t] })
    (base:Nat) (e:TypeId) (i:TypeInfo) (z:Value) (bytes:Nat) (ht:P.underlying t = some (.slice e)) (hi:P.info? e = some i) (hz:i.zero = some z) (hsize:i.size = 1) (hby:i.bytes = bytes)
    (enc:α -> Value) (v src:Value) (ys:List α) (h0:0 < ys.length) (hs:a.eval s = v) (hv:∃ g,v = .slice (some ⟨g,0,none⟩) 0 0 /\ base <= g /\ w.heap[g]? = some (.cells #[] e (0,0))) (hx:a.eval x = src) (hsrc:Src w enc src ys)
    (h63:ys.length <= 4398046511104) (hb:bytes <= 32) :
    ∃ u w',(execOp a.eval o).run P w = .ok (.value u) w' /\ ∀ g,u.ownBlock = some g -> w.heap.size <= g /\ g < w'.heap.size:=by
 obtain ⟨g,rfl,hbg,hg⟩:=hv;obtain ⟨A,c,rfl,hc⟩:=hsrc;cases ys with
 | nil=>simp at h0
 | cons y ys =>
   obtain ⟨b0,off0,rfl,_⟩:=hc 0 (by simp)
   have hnews:∀ j u,((y :: ys).map enc)[j]? = some u -> w.cell? ((⟨b0,off0,none⟩:Addr).add j) = some u:=fun j u hu=>by
    rw [List.getElem?_map] at hu
    rcases Nat.lt_or_ge j (y :: ys).length with hj | hj
    . rw [List.getElem?_eq_getElem hj] at hu
      simp only [Option.map_some,Option.some.injEq] at hu;obtain ⟨b',off',hA,hcell⟩:=hc j hj;cases hA;rw [<- hu,addr_add]; exact hcell
    . rw [List.getElem?_eq_none hj] at hu; cases hu
   have hbytes:(y :: ys).length * bytes <= 140737488355328:=by
    have:(y :: ys).length * bytes <= 4398046511104 * 32:=Nat.mul_le_mul h63 hb;omega
   have hgr:=run_append_grow (P:=P) w t o.type e i z ht hi hz ⟨g,0,none⟩ 0 0 [] (by simp) (by simp) ⟨b0,off0,none⟩ (y :: ys).length c ((y :: ys).map enc) (by rw [hsize]; simp) hnews (by simp) (by simp only [List.length_cons] at h63 ⊢; omega) (by rw [hby]; exact growslice_fits (by simp) (by rw [Nat.zero_add]; exact hbytes))
   unfold execOp;simp only [ho,resolve,invoke,builtin,Sem.run_bind,Sem.run_pure,Result.andThen_ok,List.map_toArray,List.map_cons,List.map_nil,hs,hx,hgr];refine ⟨_,_,rfl,fun k hk=>?_⟩;injection hk with hk;subst hk;exact ⟨Nat.le_refl _,by rw [World.size_alloc]; exact Nat.lt_succ_self _⟩
end Go.Tw
namespace Go.Proofs
open Go.RowKit Go.Tw Go.Flow
attribute [local go_sem] Oper.semAt_some
theorem X9x (w:World) (v:Value) (s:Q0b) (hv:Q0p w v s) (hs:Q2x s) (hpos:∀ k,k < s.members.length -> 0 < (Q0d s.members k).length /\ 0 < (Q0n s.members k).length /\ 0 < (Q0s s.members k).length) :
    Calls Tryz.prog 18 #[v] w fun e w'=>∃ uv xv qs,e = .returned (.agg #[.int .i64 s.limit,uv,xv]) /\ X7h w' w.heap.size w'.heap.size uv xv s.ships qs /\ qs.map (·.1) = s.members /\ Ext w w':=by
 obtain ⟨w0,hw0⟩:∃ z,z = w:=⟨w,rfl⟩;have HW0:Hid (w0.heap.size = w.heap.size):=Lib.hid (by rw [hw0])
 rw [show w.heap.size = w0.heap.size by rw [hw0]]
 clear hw0;have HPOS:=Lib.hid hpos;clear hpos;obtain ⟨l0,li,lz0,lz1,lz2⟩:=info_parts Tryz.J5e;obtain ⟨j0,hj,jz0,jz1,jz2⟩:=info_parts Tryz.info3;obtain ⟨a,b,rfl,h2⟩:=hv;obtain ⟨A,capa,rfl,-,-,-⟩:=h2.ships.opened;obtain ⟨B,capb,rfl,-,-,hc⟩:=h2.members.opened;have H2:=Lib.hid h2;have HC:=Lib.hid hc;have HS:=Lib.hid hs;have hT7:=hs.ships;have hn9:=hs.members;obtain ⟨n,hn⟩:∃ n,s.members.length = n:=⟨_,rfl⟩;have HN:=Lib.hid hn;obtain ⟨T,hT⟩:∃ n,s.ships.length = n:=⟨_,rfl⟩;have HT:=Lib.hid hT;obtain ⟨lim,hlim⟩:∃ n,s.limit = n:=⟨_,rfl⟩;have HLIM:=Lib.hid hlim;have hi2:=h2.ships;rw [hT] at hi2 hT7;rw [hn] at HC hn9;rw [hn,hT,hlim];have HSH:=Lib.hid hi2;clear h2 hc hs hn hT hlim hi2;go_enter Tryz.func18,Tryz.ntmps18;go_wp2_with fail;obtain ⟨W,hWW,k0,k1,HXW,eW⟩:=Q6u w 55 #[.int .i64 lim,.slice A T capa,.slice B n capb] 74 #[.int .i64 0,.slice none 0 0,.slice none 0 0];rw [hWW];clear hWW;obtain ⟨gs,hgs⟩:∃ x,w.heap.size = x:=⟨_,rfl⟩;have HGS:=Lib.hid hgs;rw [hgs] at k0 k1 eW ⊢;have K0:=Lib.hid k0;have K1:=Lib.hid k1;clear k0 k1 hgs;have hdr:=(Ext.refl W).drew;refine Flow.Q4c [.p,.w,.w,.p,.w,.w,.p,.w,.last] [0,1,2,3,4,5,6,7,8] [[],[0],[],[],[3],[2,3,4],[0,1,2,3,4,5],[],[0,1,2,3,4,5,6,7]] [8]
  [.c 0 (.pointer (some ⟨gs,0,none⟩)),.c 1 (.int .i64 lim),⟨fun v wz=>Q0v wz (v 2) W.heap.size 3,fun _ _ _ hx h=>h.ext hx⟩,.c 3 (.pointer (some ⟨gs,1,none⟩)),.c 4 (.slice A T capa),⟨fun v wz=>(fun v w'=>Q0i w' w0.heap.size 3 (.int .i64) (v 5) s.ships) v wz,fun _ _ _ hx h=>Q0i.below h hx⟩,⟨fun v wz=>(fun v w'=>v 6 = .agg #[.int .i64 lim,v 5,.slice none 0 0]) v wz,by intro _ _ _ _ h; exact h⟩,⟨fun v wz=>(fun v w'=>∃ g,v 7 = .pointer (some ⟨g,0,none⟩) /\ Blk w' g 74 #[.int .i64 0,.slice none 0 0,.slice none 0 0] /\ W.heap.size <= g) v wz,by rintro v a b hx ⟨g,h1,h2,h3⟩; exact ⟨g,h1,h2.ext hx,h3⟩⟩,.none]
  [fun v w1 w'=>∃ g,v 7 = .pointer (some ⟨g,0,none⟩) /\ Blk w1 g 74 #[.int .i64 0,.slice none 0 0,.slice none 0 0] /\ Blk w' g 74 #[.int .i64 lim,v 5,.slice none 0 0] /\ (∀ n,n <= g -> Below n w1 w') /\ (∀ k,k ≠ g -> w'.heap[k]? = w1.heap[k]?) /\ W.heap.size <= g /\ Q0i w1 w0.heap.size 3 (.int .i64) (v 5) s.ships] (by kernel_rfl) rfl (by kernel_rfl) ⟨?g0,?g1,?g2,?g3,?g4,?g5,?g6,?g7,?g8,trivial⟩ ?post
 case g0 | g3=>
  intro v w1 hx;intro bb hbb;subst hbb;refine ⟨_,fun w=>?_,rfl⟩;go_simp
 case g1 | g4=>
  intro v w1 hx;(repeat intro (zq:v _ = _));intro bb hbb;subst hbb;have n0:w1.cell? ⟨gs,0,none⟩ = some (.int .i64 lim):=(K0.out.ext (hdr.trans hx)).cell 0;have n1:w1.cell? ⟨gs,1,none⟩ = some (.slice A T capa):=(K0.out.ext (hdr.trans hx)).cell 1;intro K hK;go_simp;exact hK _ _ (Ext.refl _) rfl
 case g2=>
  intro v w1 hx;intro bb hbb;subst hbb;intro K hK;go_simp;exact hK _ _ (Ext.box _ _) (Q0v.made _ _ _ (hdr.trans hx).size)
 case g5=>
  intro v w1 hx (q2:Q0v w1 (v 2) W.heap.size 3) (q3:v 3 = _) (q4:v 4 = _);intro bb hbb;intro K hK;have o1:bb.eval (.tmp 8) = v 2:=by rw [hbb]; dsimp only; (try simp (discharger:=decide) only [eval_put_ne]); rw [Q0a (by simp only [size_put]; exact (by decide:8 < 44))]
  have o2:bb.eval (.tmp 10) = .slice A T capa:=by rw [hbb]; dsimp only; (try simp (discharger:=decide) only [eval_put_ne]); rw [Q0a (by simp only [size_put]; exact (by decide:10 < 44))]; exact q4
  exact Q1n (.tmp 8) (.tmp 10) 44 rfl W.heap.size 3 j0 (.int .i64 0) 8 Tryz.underlying44 hj jz0 jz1 jz2 rfl (Value.int .i64) (v 2) (.slice A T capa) s.ships o1 q2 o2 (Q4v (HSH.out.ext (HXW.out.trans (hdr.trans hx)))) (fun _ _=>rfl) (by rw [HT.out]; omega) (by decide) (hdr.trans hx).size (fun v' w' hown hx2=>hK _ _ hx2 (Q0i.weaken hown (by have h2:=HXW.out.size; have h3:=HW0.out; omega)))
 case g6=>
  intro v w1 hx (q0:v 0 = _) (q1:v 1 = _) _ (q3:v 3 = _) (q4:v 4 = _) (q5:(fun v w'=>Q0i w' w0.heap.size 3 (.int .i64) (v 5) s.ships) v w1);intro bb hbb;obtain ⟨s9,c9,e9,_⟩:=Q0i.shape q5;have o1:bb.eval (.tmp 7) = .int .i64 lim:=by rw [hbb]; dsimp only; (try simp (discharger:=decide) only [eval_put_ne]); rw [Q0a (by simp only [size_put]; exact (by decide:7 < 44))]; exact q1
  have o2:bb.eval (.tmp 11) = v 5:=by rw [hbb]; dsimp only; (try simp (discharger:=decide) only [eval_put_ne]); rw [Q0a (by simp only [size_put]; exact (by decide:11 < 44))]
  rw [e9] at o2;exact ⟨_,fun w=>Y2i _ (.tmp 7) (.tmp 11) rfl o1 o2 (fun w=>X2n w _ _ _ _),by show Value.agg #[.int .i64 lim,.slice s9 s.ships.length c9,.slice none 0 0] = Value.agg #[.int .i64 lim,v 5,.slice none 0 0]; rw [e9]⟩
 case g7=>
  intro v w1 hx;intro bb hbb;subst hbb;intro K hK;go_simp;exact hK _ _ (Ext.box _ _) ⟨_,rfl,Blk.made _ _ _,(hdr.trans hx).size⟩
 case g8=>
  intro v w1 hx (q0:v 0 = _) (q1:v 1 = _) _ (q3:v 3 = _) (q4:v 4 = _) (q5:(fun v w'=>Q0i w' w0.heap.size 3 (.int .i64) (v 5) s.ships) v w1) (q6:(fun v w'=>v 6 = .agg #[.int .i64 lim,v 5,.slice none 0 0]) v w1) (q7:(fun v w'=>∃ g,v 7 = .pointer (some ⟨g,0,none⟩) /\ Blk w' g 74 #[.int .i64 0,.slice none 0 0,.slice none 0 0] /\ W.heap.size <= g) v w1);intro wl hT;obtain rfl:wl = w1:=hT;intro bb hbb;intro K hK;obtain ⟨g,e13,h13,h13s⟩:=q7;obtain ⟨s9,c9,e9,_⟩:=Q0i.shape q5;have o1:bb.eval (.tmp 3) = .pointer (some ⟨g,0,none⟩):=by rw [hbb]; dsimp only; (try simp (discharger:=decide) only [eval_put_ne]); rw [Q0a (by simp only [size_put]; exact (by decide:3 < 44))]; exact e13
  have o2:bb.eval (.tmp 12) = .agg #[.int .i64 lim,v 5,.slice none 0 0]:=by rw [hbb]; dsimp only; (try simp (discharger:=decide) only [eval_put_ne]); rw [Q0a (by simp only [size_put]; exact (by decide:12 < 44))]; exact q6
  exact Q1y (.tmp 3) (.tmp 12) _ rfl Tryz.Q4t o1 o2 h13 rfl rfl (by intro u hu; rw [e9] at hu; simp only [List.mem_cons,List.not_mem_nil,or_false] at hu; rcases hu with rfl | rfl | rfl <;> rfl) (fun vv w' hb hl ho=>hK _ _ ⟨g,e13,h13,hb,hl,ho,h13s,q5⟩)
 case post =>
  intro v w1 hx (q0:v 0 = _) (q1:v 1 = _) (q2:Q0v w1 (v 2) W.heap.size 3) (q3:v 3 = _) (q4:v 4 = _) (q5:(fun v w'=>Q0i w' w0.heap.size 3 (.int .i64) (v 5) s.ships) v w1) (q6:(fun v w'=>v 6 = .agg #[.int .i64 lim,v 5,.slice none 0 0]) v w1) (q7:(fun v w'=>∃ g,v 7 = .pointer (some ⟨g,0,none⟩) /\ Blk w' g 74 #[.int .i64 0,.slice none 0 0,.slice none 0 0] /\ W.heap.size <= g) v w1);intro w2 hE;replace hE:(fun v w1 w'=>∃ g,v 7 = .pointer (some ⟨g,0,none⟩) /\ Blk w1 g 74 #[.int .i64 0,.slice none 0 0,.slice none 0 0] /\ Blk w' g 74 #[.int .i64 lim,v 5,.slice none 0 0] /\ (∀ n,n <= g -> Below n w1 w') /\ (∀ k,k ≠ g -> w'.heap[k]? = w1.heap[k]?) /\ W.heap.size <= g /\ Q0i w1 w0.heap.size 3 (.int .i64) (v 5) s.ships) v w1 w2:=hE;simp only [Flow.acts,Act.put];go_simp;obtain ⟨O,e6,hbO,hb9,hl9,ho9,hOs,hu4⟩:=hE;have hxx:=hdr.trans hx;have hx2:Ext W w2:=Below.trans hxx (hl9 _ hOs);have hus:=Q5e (Q0i.weaken hu4 (Nat.zero_le _)) hbO (by decide) ho9
  have hst:∀ b,(v 5).ownBlock = some b -> w0.heap.size <= b:=fun b hb=>(World.ownsRow.lt hu4 b hb).1;obtain ⟨su,cu,eu,_⟩:=hus.shape;have HX2:=Lib.hid hx2;have HK0:=Lib.hid (K0.out.ext hx2);have HK1:=Lib.hid (K1.out.ext hx2);have HOW:Hid (W.heap.size <= O):=Lib.hid hOs;rw [e6];obtain ⟨uv,huv⟩:∃ z,v 5 = z:=⟨_,rfl⟩;rw [huv] at hb9 hus eu hst ⊢;have HSTU:=Lib.hid hst;have HU:=Lib.hid hus;have HBO:=Lib.hid hb9;have HEU:=Lib.hid eu;have hgO:gs + 1 + 1 <= O:=by omega
  have hOw:O + 1 <= w2.heap.size:=by have:=hb9.lt; omega
  have c2:w2.cell? ⟨gs,2,none⟩ = some (.slice B n capb):=HK0.out.cell 2;obtain ⟨wb,rfl⟩:∃ Z,Z = w2:=⟨_,rfl⟩;clear hst hx hdr hxx hx2 hus eu hbO hb9 hl9 ho9 hOs hu4 e6 huv eW q0 q1 q2 q3 q4 q5 q6 q7;go_wp2_with fail;clear c2
  go_loopw [16] (fun i wr=>∃ (k:Nat) (xv:Value) (qs:List MV),k <= n /\ i = .int .i64 k /\ Q0u wr wb.heap.size 90 5 Q9j xv qs /\ qs.map (·.1) = s.members.take k /\ J2c wr qs /\ Q0i wr 0 3 (.int .i64) uv s.ships /\ Blk wr O 74 #[.int .i64 lim,uv,xv] /\ Off O wb wr /\ StA w0.heap.size uv qs) (fun i _=>n - (intOf i).toNat)
  case atStart=>exact ⟨0,_,[],Nat.zero_le _,rfl,Q0u.nil _ _ _ _ _,rfl,(fun q hq=>by simp at hq),HU.out,HBO.out,Off.refl _ _,HSTU.out,(fun q hq=>by simp at hq),List.Pairwise.nil⟩
  case round =>
   obtain ⟨k,xv,qs,hk,rfl,hown,hqs,hmr,hu,hbo,hoff,hsta⟩:=hrel;have HSTA:=Lib.hid hsta;clear hsta;have hqk:qs.length = k:=by rw [<- List.length_map (f:=(·.1)),hqs,List.length_take,HN.out]; omega
   have hxr:Ext w wr:=Below.trans HXW.out (Below.trans (HX2.out.mono (by have:=HGS.out; have:=HXW.out.size; omega)) (hoff.1.mono (by have:=HGS.out; omega)))
   have HQS:=Lib.hid hqs;have HMR:=Lib.hid hmr;have HUU:=Lib.hid hu;have HOWN:=Lib.hid hown;have HBK:=Lib.hid hbo;have HOF:=Lib.hid hoff
   by_cases hlt:k < n
   . have hkI:(k:Int) < n:=by omega
     obtain ⟨b1,off,x,y,z,rfl,hb,e0,e1,e2,e3,e4,hi1,hi2,hi3,hsn⟩:=HC.out k hlt;replace e0:=hxr.cell e0;replace e1:=hxr.cell e1;replace e2:=hxr.cell e2;replace e3:=hxr.cell e3;replace e4:=hxr.cell e4;obtain ⟨X,capx,rfl,-,-,-⟩:=hi1.opened;obtain ⟨Y,capy,rfl,-,-,-⟩:=hi2.opened;obtain ⟨Z,capz,rfl,-,-,-⟩:=hi3.opened;have hsh:=HS.out.each k (by rw [HN.out]; exact hlt)
     obtain ⟨-,hs1,hs2,hs3⟩:=hsh;obtain ⟨hp1,hp2,hp3⟩:=HPOS.out k (by rw [HN.out]; exact hlt)
     have htk:s.members.take (k + 1) = s.members.take k ++ [⟨Q1d s.members k,Q0h s.members k,Q0d s.members k,Q0n s.members k,Q0s s.members k⟩]:=by
      rw [List.take_succ_eq_append_getElem (by rw [HN.out]; exact hlt)]
      unfold Q1d Q0h Q0d Q0n Q0s;rw [Q0y _ (by rw [HN.out]; exact hlt)]
     have HTK:=Lib.hid htk;have HI1:=Lib.hid (hi1.ext hxr);have HI2:=Lib.hid (hi2.ext hxr);have HI3:=Lib.hid (hi3.ext hxr);obtain ⟨nm,hnm⟩:∃ x,Q1d s.members k = x:=⟨_,rfl⟩;obtain ⟨wt,hwt⟩:∃ x,Q0h s.members k = x:=⟨_,rfl⟩;obtain ⟨l1,hl1⟩:∃ x,Q0d s.members k = x:=⟨_,rfl⟩;obtain ⟨l2,hl2⟩:∃ x,Q0n s.members k = x:=⟨_,rfl⟩;obtain ⟨l3,hl3⟩:∃ x,Q0s s.members k = x:=⟨_,rfl⟩;rw [hnm,hwt,hl1,hl2,hl3] at HTK;rw [hnm] at e0;rw [hwt] at e1;rw [hl1] at e2 HI1 hs1 hp1;rw [hl2] at e3 HI2 hs2 hp2;rw [hl3] at e4 HI3 hs3 hp3;have HP1:=Lib.hid hp1;have HP2:=Lib.hid hp2;have HP3:=Lib.hid hp3;clear hp1 hp2 hp3;obtain ⟨wq,rfl⟩:∃ Z,Z = wr:=⟨_,rfl⟩;clear hown hqs hmr hu hbo hoff hxr hi1 hi2 hi3 hsn htk hnm hwt hl1 hl2 hl3;go_wp2_with (with_reducible (refine Y7o ?_); refine Q0t rfl _ _ _ rfl Tryz.J1q rfl rfl (Blk.made _ _ _) rfl rfl K0f ?_; intro w3 hb3 hl3' ho3; refine halted ?_);obtain ⟨gm,hgm⟩:∃ x,wq.heap.size = x:=⟨_,rfl⟩;have hx3:Ext wq w3:=Below.trans (Ext.box wq _) (hl3' _ (Nat.le_refl _));rw [hgm] at hb3 ⊢;have hgO:O < gm:=by have:=HBK.out.lt; omega
     have KB:=Lib.hid hb3;have HX3:=Lib.hid hx3;have HBK3:=Lib.hid (HBK.out.ext hx3);have HOW3:=Lib.hid (HOWN.out.below hx3);have HMR3:Hid (J2c w3 qs):=Lib.hid (fun q hq=>(HMR.out q hq).ext hx3);have HU3:=Lib.hid (HUU.out.below hx3);have HOF3:=Lib.hid (HOF.out.ext hx3 (by omega))
     have HJ1:=Lib.hid (HI1.out.ext hx3);have HJ2:=Lib.hid (HI2.out.ext hx3);have HJ3:=Lib.hid (HI3.out.ext hx3);have hdr:=(Ext.refl w3).drew;have hs3w:wb.heap.size <= w3.heap.size:=HOF3.out.2.1;clear hb3 hl3' ho3 hx3 hgm e0 e1 e2 e3 e4;unfold Q1x;go_wp2_with fail;refine Flow.regionF [9,13,17] [.p,.w,.p,.w,.p,.w,.w,.p,.w,.w,.w,.p,.w,.w,.w,.p,.w,.w,.p,.w,.last,.last,.last] [0,1,2,3,4,5,6,7,8,9,10,11,12,13,14,15,16,17,18,19,20,21,22] [[],[0],[],[2],[],[4],[],[],[7],[6,7,8],[],[],[11],[6,7,8,9,10,11,12],[],[],[15],[6,7,8,9,10,11,12,13,14,15,16],[2,3,4,5,6,7,8,9,10,11,12,13,14,15,16,17],[2,3,4,5,6,7,8,9,10,11,12,13,14,15,16,17,18],[0,1,2,3,4,5,6,7,8,9,10,11,12,13,14,15,16,17,18,19],[0,1,2,3,4,5,6,7,8,9,10,11,12,13,14,15,16,17,18,19,20],[0,1,2,3,4,5,6,7,8,9,10,11,12,13,14,15,16,17,18,19,20,21]] [20,21,22]
      [.c 0 (.pointer (some ⟨O,2,none⟩)),.c 1 (xv),.c 2 (.pointer (some ⟨gm,0,none⟩)),.c 3 (.string nm),.c 4 (.pointer (some ⟨gm,1,none⟩)),.c 5 (.int .i64 wt),⟨fun v wz=>Q0v wz (v 6) w3.heap.size 3,fun _ _ _ hx h=>h.ext hx⟩,.c 7 (.pointer (some ⟨gm,2,none⟩)),.c 8 (.slice X l1.length capx),⟨fun v wz=>(fun v w'=>Q0i w' w3.heap.size 3 (.int .i64) (v 9) l1) v wz,fun _ _ _ hx h=>Q0i.below h hx⟩,⟨fun v wz=>Q0v wz (v 10) w3.heap.size 3,fun _ _ _ hx h=>h.ext hx⟩,.c 11 (.pointer (some ⟨gm,3,none⟩)),.c 12 (.slice Y l2.length capy),⟨fun v wz=>(fun v w'=>Q0i w' w3.heap.size 3 (.int .i64) (v 13) l2) v wz,fun _ _ _ hx h=>Q0i.below h hx⟩,⟨fun v wz=>Q0v wz (v 14) w3.heap.size 3,fun _ _ _ hx h=>h.ext hx⟩,.c 15 (.pointer (some ⟨gm,4,none⟩)),.c 16 (.slice Z l3.length capz),⟨fun v wz=>(fun v w'=>Q0i w' w3.heap.size 3 (.int .i64) (v 17) l3) v wz,fun _ _ _ hx h=>Q0i.below h hx⟩,⟨fun v wz=>(fun v w'=>v 18 = .agg #[.string nm,.int .i64 wt,v 9,v 13,v 17]) v wz,by intro _ _ _ _ h; exact h⟩,⟨fun v wz=>(fun v w'=>∃ g,v 19 = .slice (some ⟨g,0,none⟩) 1 1 /\ Blk w' g 90 (Q9j (⟨nm,wt,l1,l2,l3⟩,v 9,v 13,v 17)).toArray) v wz,by rintro v a b hx ⟨g,h1,h2⟩; exact ⟨g,h1,h2.ext hx⟩⟩,.none,.none,.none]
      [fun v w1 w'=>Q0u w' wb.heap.size 90 5 Q9j (v 20) (qs ++ [(⟨nm,wt,l1,l2,l3⟩,v 9,v 13,v 17)]) /\ w1.grownBy w' xv.ownBlock,fun v w1 w'=>v 21 = .pointer (some ⟨O,2,none⟩) /\ Q0u w' wb.heap.size 90 5 Q9j (v 20) (qs ++ [(⟨nm,wt,l1,l2,l3⟩,v 9,v 13,v 17)]) /\ w1.grownBy w' xv.ownBlock,fun v w1 w'=>∃ x wm,Q0u wm wb.heap.size 90 5 Q9j x (qs ++ [(⟨nm,wt,l1,l2,l3⟩,v 9,v 13,v 17)]) /\ w1.grownBy wm xv.ownBlock /\ w' = wm.setCell ⟨O,2,none⟩ x] (by kernel_rfl) rfl (by kernel_rfl) ⟨?g0,?g1,?g2,?g3,?g4,?g5,?g6,?g7,?g8,?g9,?g10,?g11,?g12,?g13,?g14,?g15,?g16,?g17,?g18,?g19,?g20,?g21,?g22,trivial⟩ rfl ?made ?post
     case made =>
      refine ⟨trivial,trivial,trivial,trivial,trivial,trivial,trivial,trivial,trivial,⟨rfl,?f9⟩,trivial,trivial,trivial,⟨rfl,?f13⟩,trivial,trivial,trivial,⟨rfl,?f17⟩,trivial,trivial,trivial,trivial,trivial,trivial⟩
      case f9 =>
       intro v w1 hx (q6:Q0v w1 (v 6) w3.heap.size 3) (q7:v 7 = _) (q8:v 8 = _);intro bb hbb;have o1:bb.eval (.tmp 26) = v 6:=by rw [hbb]; dsimp only; (try simp (discharger:=decide) only [eval_put_ne]); rw [Q0a (by simp only [size_put]; exact (by decide:26 < 44))]
       have o2:bb.eval (.tmp 28) = .slice X l1.length capx:=by rw [hbb]; dsimp only; (try simp (discharger:=decide) only [eval_put_ne]); rw [Q0a (by simp only [size_put]; exact (by decide:28 < 44))]; exact q8
       exact Q5f (.tmp 26) (.tmp 28) 44 rfl w3.heap.size 3 j0 (.int .i64 0) 8 Tryz.underlying44 hj jz0 jz1 jz2 (Value.int .i64) (v 6) (.slice X l1.length capx) l1 HP1.out o1 q6 o2 (Q4v (HJ1.out.ext (hdr.trans hx))) (by omega) (by decide)
      case f13 =>
       intro v w1 hx (q6:Q0v w1 (v 6) w3.heap.size 3) (q7:v 7 = _) (q8:v 8 = _) (q9:(fun v w'=>Q0i w' w3.heap.size 3 (.int .i64) (v 9) l1) v w1) (q10:Q0v w1 (v 10) w3.heap.size 3) (q11:v 11 = _) (q12:v 12 = _);intro bb hbb;have o1:bb.eval (.tmp 30) = v 10:=by rw [hbb]; dsimp only; (try simp (discharger:=decide) only [eval_put_ne]); rw [Q0a (by simp only [size_put]; exact (by decide:30 < 44))]
       have o2:bb.eval (.tmp 32) = .slice Y l2.length capy:=by rw [hbb]; dsimp only; (try simp (discharger:=decide) only [eval_put_ne]); rw [Q0a (by simp only [size_put]; exact (by decide:32 < 44))]; exact q12
       exact Q5f (.tmp 30) (.tmp 32) 44 rfl w3.heap.size 3 j0 (.int .i64 0) 8 Tryz.underlying44 hj jz0 jz1 jz2 (Value.int .i64) (v 10) (.slice Y l2.length capy) l2 HP2.out o1 q10 o2 (Q4v (HJ2.out.ext (hdr.trans hx))) (by omega) (by decide)
      case f17 =>
       intro v w1 hx (q6:Q0v w1 (v 6) w3.heap.size 3) (q7:v 7 = _) (q8:v 8 = _) (q9:(fun v w'=>Q0i w' w3.heap.size 3 (.int .i64) (v 9) l1) v w1) (q10:Q0v w1 (v 10) w3.heap.size 3) (q11:v 11 = _) (q12:v 12 = _) (q13:(fun v w'=>Q0i w' w3.heap.size 3 (.int .i64) (v 13) l2) v w1) (q14:Q0v w1 (v 14) w3.heap.size 3) (q15:v 15 = _) (q16:v 16 = _);intro bb hbb;have o1:bb.eval (.tmp 34) = v 14:=by rw [hbb]; dsimp only; (try simp (discharger:=decide) only [eval_put_ne]); rw [Q0a (by simp only [size_put]; exact (by decide:34 < 44))]
       have o2:bb.eval (.tmp 36) = .slice Z l3.length capz:=by rw [hbb]; dsimp only; (try simp (discharger:=decide) only [eval_put_ne]); rw [Q0a (by simp only [size_put]; exact (by decide:36 < 44))]; exact q16
       exact Q5f (.tmp 34) (.tmp 36) 44 rfl w3.heap.size 3 j0 (.int .i64 0) 8 Tryz.underlying44 hj jz0 jz1 jz2 (Value.int .i64) (v 14) (.slice Z l3.length capz) l3 HP3.out o1 q14 o2 (Q4v (HJ3.out.ext (hdr.trans hx))) (by omega) (by decide)
     case g0 | g2 | g4 | g7 | g11 | g15=>
      intro v w1 hx;intro bb hbb;subst hbb;refine ⟨_,fun w=>?_,rfl⟩;go_simp
     case g1 | g3 | g5 | g8 | g12 | g16=>
      intro v w1 hx;(repeat intro (zq:v _ = _));intro bb hbb;subst hbb;have n0:w1.cell? ⟨O,2,none⟩ = some xv:=(HBK3.out.ext (hdr.trans hx)).cell 2;have n1:w1.cell? ⟨gm,0,none⟩ = some (.string nm):=(KB.out.ext (hdr.trans hx)).cell 0;have n2:w1.cell? ⟨gm,1,none⟩ = some (.int .i64 wt):=(KB.out.ext (hdr.trans hx)).cell 1;have n3:w1.cell? ⟨gm,2,none⟩ = some (.slice X l1.length capx):=(KB.out.ext (hdr.trans hx)).cell 2;have n4:w1.cell? ⟨gm,3,none⟩ = some (.slice Y l2.length capy):=(KB.out.ext (hdr.trans hx)).cell 3;have n5:w1.cell? ⟨gm,4,none⟩ = some (.slice Z l3.length capz):=(KB.out.ext (hdr.trans hx)).cell 4;intro K hK;go_simp;exact hK _ _ (Ext.refl _) rfl
     case g6 | g10 | g14=>
      intro v w1 hx;intro bb hbb;subst hbb;intro K hK;go_simp;exact hK _ _ (Ext.box _ _) (Q0v.made _ _ _ (hdr.trans hx).size)
     case g9=>
      intro v w1 hx (q6:Q0v w1 (v 6) w3.heap.size 3) (q7:v 7 = _) (q8:v 8 = _);intro bb hbb;intro K hK;have o1:bb.eval (.tmp 26) = v 6:=by rw [hbb]; dsimp only; (try simp (discharger:=decide) only [eval_put_ne]); rw [Q0a (by simp only [size_put]; exact (by decide:26 < 44))]
      have o2:bb.eval (.tmp 28) = .slice X l1.length capx:=by rw [hbb]; dsimp only; (try simp (discharger:=decide) only [eval_put_ne]); rw [Q0a (by simp only [size_put]; exact (by decide:28 < 44))]; exact q8
      exact Q1n (.tmp 26) (.tmp 28) 44 rfl w3.heap.size 3 j0 (.int .i64 0) 8 Tryz.underlying44 hj jz0 jz1 jz2 rfl (Value.int .i64) (v 6) (.slice X l1.length capx) l1 o1 q6 o2 (Q4v (HJ1.out.ext (hdr.trans hx))) (fun _ _=>rfl) (by omega) (by decide) (hdr.trans hx).size (fun v' w' hown hx2=>hK _ _ hx2 hown)
     case g13=>
      intro v w1 hx _ (q7:v 7 = _) (q8:v 8 = _) _ (q10:Q0v w1 (v 10) w3.heap.size 3) (q11:v 11 = _) (q12:v 12 = _);intro bb hbb;intro K hK;have o1:bb.eval (.tmp 30) = v 10:=by rw [hbb]; dsimp only; (try simp (discharger:=decide) only [eval_put_ne]); rw [Q0a (by simp only [size_put]; exact (by decide:30 < 44))]
      have o2:bb.eval (.tmp 32) = .slice Y l2.length capy:=by rw [hbb]; dsimp only; (try simp (discharger:=decide) only [eval_put_ne]); rw [Q0a (by simp only [size_put]; exact (by decide:32 < 44))]; exact q12
      exact Q1n (.tmp 30) (.tmp 32) 44 rfl w3.heap.size 3 j0 (.int .i64 0) 8 Tryz.underlying44 hj jz0 jz1 jz2 rfl (Value.int .i64) (v 10) (.slice Y l2.length capy) l2 o1 q10 o2 (Q4v (HJ2.out.ext (hdr.trans hx))) (fun _ _=>rfl) (by omega) (by decide) (hdr.trans hx).size (fun v' w' hown hx2=>hK _ _ hx2 hown)
     case g17=>
      intro v w1 hx _ (q7:v 7 = _) (q8:v 8 = _) _ _ (q11:v 11 = _) (q12:v 12 = _) _ (q14:Q0v w1 (v 14) w3.heap.size 3) (q15:v 15 = _) (q16:v 16 = _);intro bb hbb;intro K hK;have o1:bb.eval (.tmp 34) = v 14:=by rw [hbb]; dsimp only; (try simp (discharger:=decide) only [eval_put_ne]); rw [Q0a (by simp only [size_put]; exact (by decide:34 < 44))]
      have o2:bb.eval (.tmp 36) = .slice Z l3.length capz:=by rw [hbb]; dsimp only; (try simp (discharger:=decide) only [eval_put_ne]); rw [Q0a (by simp only [size_put]; exact (by decide:36 < 44))]; exact q16
      exact Q1n (.tmp 34) (.tmp 36) 44 rfl w3.heap.size 3 j0 (.int .i64 0) 8 Tryz.underlying44 hj jz0 jz1 jz2 rfl (Value.int .i64) (v 14) (.slice Z l3.length capz) l3 o1 q14 o2 (Q4v (HJ3.out.ext (hdr.trans hx))) (fun _ _=>rfl) (by omega) (by decide) (hdr.trans hx).size (fun v' w' hown hx2=>hK _ _ hx2 hown)
     case g18=>
      intro v w1 hx (q2:v 2 = _) (q3:v 3 = _) (q4:v 4 = _) (q5:v 5 = _) _ (q7:v 7 = _) (q8:v 8 = _) (q9:(fun v w'=>Q0i w' w3.heap.size 3 (.int .i64) (v 9) l1) v w1) _ (q11:v 11 = _) (q12:v 12 = _) (q13:(fun v w'=>Q0i w' w3.heap.size 3 (.int .i64) (v 13) l2) v w1) _ (q15:v 15 = _) (q16:v 16 = _) (q17:(fun v w'=>Q0i w' w3.heap.size 3 (.int .i64) (v 17) l3) v w1);intro bb hbb;obtain ⟨s9,c9,e9,_⟩:=Q0i.shape q9;obtain ⟨s10,c10,e10,_⟩:=Q0i.shape q13;obtain ⟨s11,c11,e11,_⟩:=Q0i.shape q17;have o1:bb.eval (.tmp 23) = .string nm:=by rw [hbb]; dsimp only; (try simp (discharger:=decide) only [eval_put_ne]); rw [Q0a (by simp only [size_put]; exact (by decide:23 < 44))]; exact q3
      have o2:bb.eval (.tmp 25) = .int .i64 wt:=by rw [hbb]; dsimp only; (try simp (discharger:=decide) only [eval_put_ne]); rw [Q0a (by simp only [size_put]; exact (by decide:25 < 44))]; exact q5
      have o3:bb.eval (.tmp 29) = v 9:=by rw [hbb]; dsimp only; (try simp (discharger:=decide) only [eval_put_ne]); rw [Q0a (by simp only [size_put]; exact (by decide:29 < 44))]
      have o4:bb.eval (.tmp 33) = v 13:=by rw [hbb]; dsimp only; (try simp (discharger:=decide) only [eval_put_ne]); rw [Q0a (by simp only [size_put]; exact (by decide:33 < 44))]
      have o5:bb.eval (.tmp 37) = v 17:=by rw [hbb]; dsimp only; (try simp (discharger:=decide) only [eval_put_ne]); rw [Q0a (by simp only [size_put]; exact (by decide:37 < 44))]
      rw [e9] at o3;rw [e10] at o4;rw [e11] at o5;exact ⟨_,fun w=>Y2l _ (.tmp 23) (.tmp 25) (.tmp 29) (.tmp 33) (.tmp 37) rfl o1 o2 o3 o4 o5 (fun w=>X5s w _ _ _ _ _ _ _ _ _ _ _),by show Value.agg #[.string nm,.int .i64 wt,.slice s9 l1.length c9,.slice s10 l2.length c10,.slice s11 l3.length c11] = Value.agg #[.string nm,.int .i64 wt,v 9,v 13,v 17]; rw [e9,e10,e11]⟩
     case g19=>
      intro v w1 hx (q2:v 2 = _) (q3:v 3 = _) (q4:v 4 = _) (q5:v 5 = _) _ (q7:v 7 = _) (q8:v 8 = _) (q9:(fun v w'=>Q0i w' w3.heap.size 3 (.int .i64) (v 9) l1) v w1) _ (q11:v 11 = _) (q12:v 12 = _) (q13:(fun v w'=>Q0i w' w3.heap.size 3 (.int .i64) (v 13) l2) v w1) _ (q15:v 15 = _) (q16:v 16 = _) (q17:(fun v w'=>Q0i w' w3.heap.size 3 (.int .i64) (v 17) l3) v w1) (q18:(fun v w'=>v 18 = .agg #[.string nm,.int .i64 wt,v 9,v 13,v 17]) v w1);intro bb hbb;intro K hK;obtain ⟨s9,c9,e9,_⟩:=Q0i.shape q9;obtain ⟨s10,c10,e10,_⟩:=Q0i.shape q13;obtain ⟨s11,c11,e11,_⟩:=Q0i.shape q17;have o1:bb.eval (.tmp 38) = .agg #[.string nm,.int .i64 wt,v 9,v 13,v 17]:=by rw [hbb]; dsimp only; (try simp (discharger:=decide) only [eval_put_ne]); rw [Q0a (by simp only [size_put]; exact (by decide:38 < 44))]; exact q18
      rw [e9,e10,e11] at o1;have hbl:Blk (w1.alloc (.cells (Value.agg #[.string nm,.int .i64 wt,.slice s9 l1.length c9,.slice s10 l2.length c10,.slice s11 l3.length c11]).cells 90)) w1.heap.size 90 (Q9j (⟨nm,wt,l1,l2,l3⟩,v 9,v 13,v 17)).toArray:=by rw [e9,e10,e11]; exact Blk.made _ _ _
      exact Q3r 72 90 (.tmp 38) rfl o1 (Y9p w1 _ _ _ _ _ _ _ _ _ _ _) (hK _ _ (Ext.box _ _) ⟨_,rfl,hbl⟩)
     case g20=>
      intro v w1 hx (q0:v 0 = _) (q1:v 1 = _) (q2:v 2 = _) (q3:v 3 = _) (q4:v 4 = _) (q5:v 5 = _) _ (q7:v 7 = _) (q8:v 8 = _) (q9:(fun v w'=>Q0i w' w3.heap.size 3 (.int .i64) (v 9) l1) v w1) _ (q11:v 11 = _) (q12:v 12 = _) (q13:(fun v w'=>Q0i w' w3.heap.size 3 (.int .i64) (v 13) l2) v w1) _ (q15:v 15 = _) (q16:v 16 = _) (q17:(fun v w'=>Q0i w' w3.heap.size 3 (.int .i64) (v 17) l3) v w1) _ (q19:(fun v w'=>∃ g,v 19 = .slice (some ⟨g,0,none⟩) 1 1 /\ Blk w' g 90 (Q9j (⟨nm,wt,l1,l2,l3⟩,v 9,v 13,v 17)).toArray) v w1);intro wl hT;obtain rfl:wl = w1:=hT;intro bb hbb;intro K hK;obtain ⟨g,hg10,hb10⟩:=q19;have o1:bb.eval (.tmp 21) = xv:=by rw [hbb]; dsimp only; (try simp (discharger:=decide) only [eval_put_ne]); rw [Q0a (by simp only [size_put]; exact (by decide:21 < 44))]; exact q1
      have o2:bb.eval (.tmp 39) = .slice (some ⟨g,0,none⟩) 1 1:=by rw [hbb]; dsimp only; (try simp (discharger:=decide) only [eval_put_ne]); rw [Q0a (by simp only [size_put]; exact (by decide:39 < 44))]; exact hg10
      have hxx:=hdr.trans hx;exact Q2t _ _ 72 rfl wb.heap.size 90 l0 (.agg #[.string ⟨#[]⟩,.int .i64 0,.slice none 0 0,.slice none 0 0,.slice none 0 0]) 5 96 Tryz.underlying72 li lz0 lz1 lz2 rfl (by decide) Q9j X3s xv _ (⟨nm,wt,l1,l2,l3⟩,v 9,v 13,v 17) o1 (HOW3.out.below hxx) ⟨g,0,none⟩ 1 o2 (Q5k hb10) (Y5m.one (q:=(⟨nm,wt,l1,l2,l3⟩,v 9,v 13,v 17)) ⟨Q0i.weaken q9 (Nat.zero_le _),Q0i.weaken q13 (Nat.zero_le _),Q0i.weaken q17 (Nat.zero_le _)⟩) (by omega) (by decide) (by have:=hxx.size; omega) (fun v' w' h1 h2=>hK _ _ ⟨h1,h2⟩)
     case g21=>
      intro v w1 hx (q0:v 0 = _) (q1:v 1 = _) (q2:v 2 = _) (q3:v 3 = _) (q4:v 4 = _) (q5:v 5 = _) _ (q7:v 7 = _) (q8:v 8 = _) _ _ (q11:v 11 = _) (q12:v 12 = _) _ _ (q15:v 15 = _) (q16:v 16 = _) _ _ _;intro wl hT;replace hT:(fun v w1 w'=>Q0u w' wb.heap.size 90 5 Q9j (v 20) (qs ++ [(⟨nm,wt,l1,l2,l3⟩,v 9,v 13,v 17)]) /\ w1.grownBy w' xv.ownBlock) v w1 wl:=hT;intro bb hbb;subst hbb;intro K hK;go_simp;exact hK _ _ ⟨rfl,hT⟩
     case g22=>
      intro v w1 hx (q0:v 0 = _) (q1:v 1 = _) (q2:v 2 = _) (q3:v 3 = _) (q4:v 4 = _) (q5:v 5 = _) _ (q7:v 7 = _) (q8:v 8 = _) _ _ (q11:v 11 = _) (q12:v 12 = _) _ _ (q15:v 15 = _) (q16:v 16 = _) _ _ _;intro wl hT;replace hT:(fun v w1 w'=>v 21 = .pointer (some ⟨O,2,none⟩) /\ Q0u w' wb.heap.size 90 5 Q9j (v 20) (qs ++ [(⟨nm,wt,l1,l2,l3⟩,v 9,v 13,v 17)]) /\ w1.grownBy w' xv.ownBlock) v w1 wl:=hT;intro bb hbb;intro K hK;obtain ⟨hT0,hT1,hT2⟩:=hT;have hxx:=hdr.trans hx;obtain ⟨bp,cp,hsh,_⟩:=hT1.shape;have o1:bb.eval (.tmp 41) = .pointer (some ⟨O,2,none⟩):=by rw [hbb]; dsimp only; (try simp (discharger:=decide) only [eval_put_ne]); rw [Q0a (by simp only [size_put]; exact (by decide:41 < 44))]; exact hT0
      have o2:bb.eval (.tmp 40) = v 20:=by rw [hbb]; dsimp only; (try simp (discharger:=decide) only [eval_put_ne]); rw [Q0a (by simp only [size_put]; exact (by decide:40 < 44))]
      have hbl:=Go.Tw.Q6f (HBK3.out.ext hxx) (HOW3.out.below hxx) (by omega) hT2
      exact Q5q _ _ rfl Tryz.J0n (g:=O) (k:=2) o1 o2 (by rw [hsh]; rfl) (by rw [hsh]; rfl) hbl (by show 2 < 3; omega) (fun v'=>hK _ _ ⟨v 20,wl,hT1,hT2,rfl⟩)
     case post =>
      intro v w1 hx hnw;(iterate 6 intro (zq:v _ = _));intro (q6:Q0v w1 (v 6) w3.heap.size 3);(iterate 2 intro (zq:v _ = _));intro (q9:(fun v w'=>Q0i w' w3.heap.size 3 (.int .i64) (v 9) l1) v w1) (q10:Q0v w1 (v 10) w3.heap.size 3);(iterate 2 intro (zq:v _ = _));intro (q13:(fun v w'=>Q0i w' w3.heap.size 3 (.int .i64) (v 13) l2) v w1) (q14:Q0v w1 (v 14) w3.heap.size 3);(iterate 2 intro (zq:v _ = _));intro (q17:(fun v w'=>Q0i w' w3.heap.size 3 (.int .i64) (v 17) l3) v w1) (q18:(fun v w'=>v 18 = .agg #[.string nm,.int .i64 wt,v 9,v 13,v 17]) v w1) (q19:(fun v w'=>∃ g,v 19 = .slice (some ⟨g,0,none⟩) 1 1 /\ Blk w' g 90 (Q9j (⟨nm,wt,l1,l2,l3⟩,v 9,v 13,v 17)).toArray) v w1);intro w2 hE;replace hE:(fun v w1 w'=>∃ x wm,Q0u wm wb.heap.size 90 5 Q9j x (qs ++ [(⟨nm,wt,l1,l2,l3⟩,v 9,v 13,v 17)]) /\ w1.grownBy wm xv.ownBlock /\ w' = wm.setCell ⟨O,2,none⟩ x) v w1 w2:=hE;simp only [Flow.acts,Act.put];go_simp;obtain ⟨x,wm,hom,hgm,rfl⟩:=hE;have hxx:=hdr.trans hx;have hbm:=Go.Tw.Q6f (HBK3.out.ext hxx) (HOW3.out.below hxx) (by omega) hgm
      have hof:=((HOF3.out.ext hxx (by omega)).grown (HOW3.out.below hxx) (by omega) (by omega) hgm).set 2 x
      have HO6:=Lib.hid (hom.Z5f (p:=⟨O,2,none⟩) (by show O < wb.heap.size; omega) x)
      have HB6:=Lib.hid (hbm.set 2 x);have HOF6:=Lib.hid hof;have HU6:=Lib.hid (Q4y (u:=x) (k:=2) (Q2j (HU3.out.below hxx) (HOW3.out.below hxx) (by decide) hgm) hbm (by decide))
      have HM6:Hid (J2c (wm.setCell ⟨O,2,none⟩ x) (qs ++ [(⟨nm,wt,l1,l2,l3⟩,v 9,v 13,v 17)])):=Lib.hid (fun q hq=>by
       rcases List.mem_append.1 hq with hq | hq
       . exact (((HMR3.out q hq).ext hxx).grown (HOW3.out.below hxx) (by decide) hgm).set hbm (by decide)
       . rw [List.mem_singleton.1 hq]
         exact (Y5m.grown (q:=(⟨nm,wt,l1,l2,l3⟩,v 9,v 13,v 17)) ⟨Q0i.weaken q9 (Nat.zero_le _),Q0i.weaken q13 (Nat.zero_le _),Q0i.weaken q17 (Nat.zero_le _)⟩ (HOW3.out.below hxx) (by decide) hgm).set hbm (by decide))
      have HST6:Hid (StA w0.heap.size uv (qs ++ [(⟨nm,wt,l1,l2,l3⟩,v 9,v 13,v 17)])):=Lib.hid (HSTA.out.snoc HU3.out HMR3.out (by have h1:=HGS.out; have h2:=HXW.out.size; have h3:=HX2.out.size; have h4:=HW0.out; omega) _ _ _ _ (fun b hb=>⟨(World.ownsRow.lt q9 b hb).1,hnw 9 (by simp) 13 (by simp) (by decide) b hb,hnw 9 (by simp) 17 (by simp) (by decide) b hb⟩) (fun b hb=>(World.ownsRow.lt q13 b hb).1) (fun b hb=>(World.ownsRow.lt q17 b hb).1))
      clear hnw;obtain ⟨w6,hw6⟩:∃ y,wm.setCell ⟨O,2,none⟩ x = y:=⟨_,rfl⟩;rw [hw6] at HO6 HB6 HOF6 HU6 HM6 ⊢;clear hw6 hom hgm hxx hx hbm hof hdr q6 q9 q10 q13 q14 q17 q18 q19;(repeat clear zq);go_wp2;go_roundw
      case rel=>exact ⟨k + 1,x,qs ++ [(⟨nm,wt,l1,l2,l3⟩,v 9,v 13,v 17)],by omega,by go_num,HO6.out,by rw [List.map_append,HQS.out,HTK.out]; rfl,HM6.out,HU6.out,HB6.out,HOF6.out,HST6.out⟩
      case measure=>simp [intOf]; omega
   . have hkI:¬ (k:Int) < n:=by omega
     have hkn:k = n:=by omega
     have hall:s.members.take k = s.members:=by rw [List.take_of_length_le (by rw [HN.out]; omega)]
     rw [hall] at hqs;have hsm:∀ q ∈ qs,Short q.1.name /\ q.1.classes.length <= 1000 /\ q.1.outside.length <= 1000 /\ q.1.inflow.length <= 1000:=fun q hq=>by
      have hm:q.1 ∈ s.members:=by rw [<- hqs]; exact List.mem_map_of_mem hq
      obtain ⟨j,hj,he⟩:=List.getElem_of_mem hm;obtain ⟨_,_,_,_,_,_,_,_,_,_,_,_,_,_,_,hsn⟩:=HC.out j (by rw [<- HN.out]; exact hj)
      obtain ⟨-,h1,h2,h3⟩:=HS.out.each j hj;unfold Q1d at hsn;unfold Q0d at h1;unfold Q0n at h2;unfold Q0s at h3;rw [Q0y _ hj,he] at hsn h1 h2 h3;exact ⟨hsn,by omega,by omega,by omega⟩
     have HSM:=Lib.hid hsm;have hr:=HK1.out.below HOF.out.1 (by omega)
     have HRR:=Lib.hid hr;have HXR:=Lib.hid hxr;have HXO:=Lib.hid hqs;have HOWN:=Lib.hid hown;have HBO2:=Lib.hid hbo;obtain ⟨ax,cx,ex,-⟩:=hown.shape;have HQK:=Lib.hid hqk;have hone:∀ u ∈ (#[Value.int .i64 lim,uv,xv]:Array Value).toList,u.oneCell' = true:=by
      intro u hu;simp only [List.mem_cons,List.not_mem_nil,or_false] at hu
      rcases hu with rfl | rfl | rfl
      . rfl
      . rw [HEU.out]; rfl
      . rw [ex]; rfl
     have HONE:=Lib.hid hone;clear hown hqs hmr hu hbo hoff hxr hall hsm hone ex hqk;go_wp2_with (first | (refine Q0j rfl _ _ rfl Tryz.X1v Tryz.Q4t rfl HBO2.out rfl ?_) | (refine Q0t rfl _ _ 74 rfl Tryz.Q4t rfl rfl hr rfl rfl HONE.out ?_; intro w9 hb9 hl9 ho9))
     refine bodyPost_ret (Q2v Tryz.results18 rfl hb9 Tryz.X1v Tryz.Q4t) rfl ?_;refine ⟨uv,xv,rfl,qs,X7h.of ?_ ?_ ?_ HSTA.out,HXO.out,Below.trans HXR.out (hl9 _ (by have:=HGS.out; omega))⟩
     . exact Q5e HUU.out HRR.out (by decide) ho9
     . exact Q0u.weaken (HOWN.out.only (g:=gs + 1) (by omega) ho9) (by have h1:=HXW.out.size; have h2:=HX2.out.size; have h3:=HW0.out; omega)
     . exact fun q hq=>(HMR.out q hq).only HRR.out (by decide) ho9
end Go.Proofs
namespace Go.Proofs
open Go.RowKit Go.Tw Go.Flow
attribute [local go_sem] Oper.semAt_some
theorem X2v (w:World) (v:Value) (s:Q0b) (hv:Q0p w v s) (hs:Q2x s) :
    Calls Tryz.prog 26 #[v] w fun e w'=>∃ u,e = .returned u /\ Q0p w' u s /\ Ext w w':=by
 obtain ⟨l0,li,lz0,lz1,lz2⟩:=info_parts Tryz.J5e;obtain ⟨j0,hj,jz0,jz1,jz2⟩:=info_parts Tryz.info3;obtain ⟨a,b,rfl,h2⟩:=hv;obtain ⟨A,capa,rfl,-,-,-⟩:=h2.ships.opened;obtain ⟨B,capb,rfl,-,-,hc⟩:=h2.members.opened;have H2:=Lib.hid h2;have HC:=Lib.hid hc;have HS:=Lib.hid hs;have hT7:=hs.ships;have hn9:=hs.members;obtain ⟨n,hn⟩:∃ n,s.members.length = n:=⟨_,rfl⟩;have HN:=Lib.hid hn;obtain ⟨T,hT⟩:∃ n,s.ships.length = n:=⟨_,rfl⟩;have HT:=Lib.hid hT;obtain ⟨lim,hlim⟩:∃ n,s.limit = n:=⟨_,rfl⟩;have HLIM:=Lib.hid hlim;have hi2:=h2.ships;rw [hT] at hi2 hT7;rw [hn] at HC hn9;rw [hn,hT,hlim];have HSH:=Lib.hid hi2;clear h2 hc hs hn hT hlim hi2;go_enter Tryz.func26,Tryz.ntmps26;go_wp2_with fail;obtain ⟨W,hWW,k0,k1,HXW,eW⟩:=Q6u w 74 #[.int .i64 lim,.slice A T capa,.slice B n capb] 74 #[.int .i64 0,.slice none 0 0,.slice none 0 0];rw [hWW];clear hWW;obtain ⟨gs,hgs⟩:∃ x,w.heap.size = x:=⟨_,rfl⟩;have HGS:=Lib.hid hgs;rw [hgs] at k0 k1 eW ⊢;have K0:=Lib.hid k0;have K1:=Lib.hid k1;clear k0 k1 hgs;have hdr:=(Ext.refl W).drew;refine Flow.Q4c [.p,.w,.w,.p,.w,.w,.p,.w,.last] [0,1,2,3,4,5,6,7,8] [[],[0],[],[],[3],[2,3,4],[0,1,2,3,4,5],[],[0,1,2,3,4,5,6,7]] [8]
  [.c 0 (.pointer (some ⟨gs,0,none⟩)),.c 1 (.int .i64 lim),⟨fun v wz=>Q0v wz (v 2) W.heap.size 3,fun _ _ _ hx h=>h.ext hx⟩,.c 3 (.pointer (some ⟨gs,1,none⟩)),.c 4 (.slice A T capa),⟨fun v wz=>(fun v w'=>Q0i w' 0 3 (.int .i64) (v 5) s.ships) v wz,fun _ _ _ hx h=>Q0i.below h hx⟩,⟨fun v wz=>(fun v w'=>v 6 = .agg #[.int .i64 lim,v 5,.slice none 0 0]) v wz,by intro _ _ _ _ h; exact h⟩,⟨fun v wz=>(fun v w'=>∃ g,v 7 = .pointer (some ⟨g,0,none⟩) /\ Blk w' g 74 #[.int .i64 0,.slice none 0 0,.slice none 0 0] /\ W.heap.size <= g) v wz,by rintro v a b hx ⟨g,h1,h2,h3⟩; exact ⟨g,h1,h2.ext hx,h3⟩⟩,.none]
  [fun v w1 w'=>∃ g,v 7 = .pointer (some ⟨g,0,none⟩) /\ Blk w1 g 74 #[.int .i64 0,.slice none 0 0,.slice none 0 0] /\ Blk w' g 74 #[.int .i64 lim,v 5,.slice none 0 0] /\ (∀ n,n <= g -> Below n w1 w') /\ (∀ k,k ≠ g -> w'.heap[k]? = w1.heap[k]?) /\ W.heap.size <= g /\ Q0i w1 0 3 (.int .i64) (v 5) s.ships] (by kernel_rfl) rfl (by kernel_rfl) ⟨?g0,?g1,?g2,?g3,?g4,?g5,?g6,?g7,?g8,trivial⟩ ?post
 case g0 | g3=>
  intro v w1 hx;intro bb hbb;subst hbb;refine ⟨_,fun w=>?_,rfl⟩;go_simp
 case g1 | g4=>
  intro v w1 hx;(repeat intro (zq:v _ = _));intro bb hbb;subst hbb;have n0:w1.cell? ⟨gs,0,none⟩ = some (.int .i64 lim):=(K0.out.ext (hdr.trans hx)).cell 0;have n1:w1.cell? ⟨gs,1,none⟩ = some (.slice A T capa):=(K0.out.ext (hdr.trans hx)).cell 1;intro K hK;go_simp;exact hK _ _ (Ext.refl _) rfl
 case g2=>
  intro v w1 hx;intro bb hbb;subst hbb;intro K hK;go_simp;exact hK _ _ (Ext.box _ _) (Q0v.made _ _ _ (hdr.trans hx).size)
 case g5=>
  intro v w1 hx (q2:Q0v w1 (v 2) W.heap.size 3) (q3:v 3 = _) (q4:v 4 = _);intro bb hbb;intro K hK;have o1:bb.eval (.tmp 8) = v 2:=by rw [hbb]; dsimp only; (try simp (discharger:=decide) only [eval_put_ne]); rw [Q0a (by simp only [size_put]; exact (by decide:8 < 44))]
  have o2:bb.eval (.tmp 10) = .slice A T capa:=by rw [hbb]; dsimp only; (try simp (discharger:=decide) only [eval_put_ne]); rw [Q0a (by simp only [size_put]; exact (by decide:10 < 44))]; exact q4
  exact Q1n (.tmp 8) (.tmp 10) 44 rfl W.heap.size 3 j0 (.int .i64 0) 8 Tryz.underlying44 hj jz0 jz1 jz2 rfl (Value.int .i64) (v 2) (.slice A T capa) s.ships o1 q2 o2 (Q4v (HSH.out.ext (HXW.out.trans (hdr.trans hx)))) (fun _ _=>rfl) (by rw [HT.out]; omega) (by decide) (hdr.trans hx).size (fun v' w' hown hx2=>hK _ _ hx2 (Q0i.weaken hown (Nat.zero_le _)))
 case g6=>
  intro v w1 hx (q0:v 0 = _) (q1:v 1 = _) _ (q3:v 3 = _) (q4:v 4 = _) (q5:(fun v w'=>Q0i w' 0 3 (.int .i64) (v 5) s.ships) v w1);intro bb hbb;obtain ⟨s9,c9,e9,_⟩:=Q0i.shape q5;have o1:bb.eval (.tmp 7) = .int .i64 lim:=by rw [hbb]; dsimp only; (try simp (discharger:=decide) only [eval_put_ne]); rw [Q0a (by simp only [size_put]; exact (by decide:7 < 44))]; exact q1
  have o2:bb.eval (.tmp 11) = v 5:=by rw [hbb]; dsimp only; (try simp (discharger:=decide) only [eval_put_ne]); rw [Q0a (by simp only [size_put]; exact (by decide:11 < 44))]
  rw [e9] at o2;exact ⟨_,fun w=>Y2i _ (.tmp 7) (.tmp 11) rfl o1 o2 (fun w=>X2n w _ _ _ _),by show Value.agg #[.int .i64 lim,.slice s9 s.ships.length c9,.slice none 0 0] = Value.agg #[.int .i64 lim,v 5,.slice none 0 0]; rw [e9]⟩
 case g7=>
  intro v w1 hx;intro bb hbb;subst hbb;intro K hK;go_simp;exact hK _ _ (Ext.box _ _) ⟨_,rfl,Blk.made _ _ _,(hdr.trans hx).size⟩
 case g8=>
  intro v w1 hx (q0:v 0 = _) (q1:v 1 = _) _ (q3:v 3 = _) (q4:v 4 = _) (q5:(fun v w'=>Q0i w' 0 3 (.int .i64) (v 5) s.ships) v w1) (q6:(fun v w'=>v 6 = .agg #[.int .i64 lim,v 5,.slice none 0 0]) v w1) (q7:(fun v w'=>∃ g,v 7 = .pointer (some ⟨g,0,none⟩) /\ Blk w' g 74 #[.int .i64 0,.slice none 0 0,.slice none 0 0] /\ W.heap.size <= g) v w1);intro wl hT;obtain rfl:wl = w1:=hT;intro bb hbb;intro K hK;obtain ⟨g,e13,h13,h13s⟩:=q7;obtain ⟨s9,c9,e9,_⟩:=Q0i.shape q5;have o1:bb.eval (.tmp 3) = .pointer (some ⟨g,0,none⟩):=by rw [hbb]; dsimp only; (try simp (discharger:=decide) only [eval_put_ne]); rw [Q0a (by simp only [size_put]; exact (by decide:3 < 44))]; exact e13
  have o2:bb.eval (.tmp 12) = .agg #[.int .i64 lim,v 5,.slice none 0 0]:=by rw [hbb]; dsimp only; (try simp (discharger:=decide) only [eval_put_ne]); rw [Q0a (by simp only [size_put]; exact (by decide:12 < 44))]; exact q6
  exact Q1y (.tmp 3) (.tmp 12) _ rfl Tryz.Q4t o1 o2 h13 rfl rfl (by intro u hu; rw [e9] at hu; simp only [List.mem_cons,List.not_mem_nil,or_false] at hu; rcases hu with rfl | rfl | rfl <;> rfl) (fun vv w' hb hl ho=>hK _ _ ⟨g,e13,h13,hb,hl,ho,h13s,q5⟩)
 case post =>
  intro v w1 hx (q0:v 0 = _) (q1:v 1 = _) (q2:Q0v w1 (v 2) W.heap.size 3) (q3:v 3 = _) (q4:v 4 = _) (q5:(fun v w'=>Q0i w' 0 3 (.int .i64) (v 5) s.ships) v w1) (q6:(fun v w'=>v 6 = .agg #[.int .i64 lim,v 5,.slice none 0 0]) v w1) (q7:(fun v w'=>∃ g,v 7 = .pointer (some ⟨g,0,none⟩) /\ Blk w' g 74 #[.int .i64 0,.slice none 0 0,.slice none 0 0] /\ W.heap.size <= g) v w1);intro w2 hE;replace hE:(fun v w1 w'=>∃ g,v 7 = .pointer (some ⟨g,0,none⟩) /\ Blk w1 g 74 #[.int .i64 0,.slice none 0 0,.slice none 0 0] /\ Blk w' g 74 #[.int .i64 lim,v 5,.slice none 0 0] /\ (∀ n,n <= g -> Below n w1 w') /\ (∀ k,k ≠ g -> w'.heap[k]? = w1.heap[k]?) /\ W.heap.size <= g /\ Q0i w1 0 3 (.int .i64) (v 5) s.ships) v w1 w2:=hE;simp only [Flow.acts,Act.put];go_simp;obtain ⟨O,e6,hbO,hb9,hl9,ho9,hOs,hu4⟩:=hE;have hxx:=hdr.trans hx;have hx2:Ext W w2:=Below.trans hxx (hl9 _ hOs);have hus:=Q5e hu4 hbO (by decide) ho9
  obtain ⟨su,cu,eu,_⟩:=hus.shape;have HX2:=Lib.hid hx2;have HK0:=Lib.hid (K0.out.ext hx2);have HK1:=Lib.hid (K1.out.ext hx2);have HOW:Hid (W.heap.size <= O):=Lib.hid hOs;rw [e6];obtain ⟨uv,huv⟩:∃ z,v 5 = z:=⟨_,rfl⟩;rw [huv] at hb9 hus eu ⊢;have HU:=Lib.hid hus;have HBO:=Lib.hid hb9;have HEU:=Lib.hid eu;have hgO:gs + 1 + 1 <= O:=by omega
  have hOw:O + 1 <= w2.heap.size:=by have:=hb9.lt; omega
  have c2:w2.cell? ⟨gs,2,none⟩ = some (.slice B n capb):=HK0.out.cell 2;obtain ⟨wb,rfl⟩:∃ Z,Z = w2:=⟨_,rfl⟩;clear hx hdr hxx hx2 hus eu hbO hb9 hl9 ho9 hOs hu4 e6 huv eW q0 q1 q2 q3 q4 q5 q6 q7;go_wp2_with fail;clear c2
  go_loopw [16] (fun i wr=>∃ (k:Nat) (xv:Value) (qs:List MV),k <= n /\ i = .int .i64 k /\ Q0u wr wb.heap.size 90 5 Q9j xv qs /\ qs.map (·.1) = s.members.take k /\ J2c wr qs /\ Q0i wr 0 3 (.int .i64) uv s.ships /\ Blk wr O 74 #[.int .i64 lim,uv,xv] /\ Off O wb wr) (fun i _=>n - (intOf i).toNat)
  case atStart=>exact ⟨0,_,[],Nat.zero_le _,rfl,Q0u.nil _ _ _ _ _,rfl,(fun q hq=>by simp at hq),HU.out,HBO.out,Off.refl _ _⟩
  case round =>
   obtain ⟨k,xv,qs,hk,rfl,hown,hqs,hmr,hu,hbo,hoff⟩:=hrel;have hqk:qs.length = k:=by rw [<- List.length_map (f:=(·.1)),hqs,List.length_take,HN.out]; omega
   have hxr:Ext w wr:=Below.trans HXW.out (Below.trans (HX2.out.mono (by have:=HGS.out; have:=HXW.out.size; omega)) (hoff.1.mono (by have:=HGS.out; omega)))
   have HQS:=Lib.hid hqs;have HMR:=Lib.hid hmr;have HUU:=Lib.hid hu;have HOWN:=Lib.hid hown;have HBK:=Lib.hid hbo;have HOF:=Lib.hid hoff
   by_cases hlt:k < n
   . have hkI:(k:Int) < n:=by omega
     obtain ⟨b1,off,x,y,z,rfl,hb,e0,e1,e2,e3,e4,hi1,hi2,hi3,hsn⟩:=HC.out k hlt;replace e0:=hxr.cell e0;replace e1:=hxr.cell e1;replace e2:=hxr.cell e2;replace e3:=hxr.cell e3;replace e4:=hxr.cell e4;obtain ⟨X,capx,rfl,-,-,-⟩:=hi1.opened;obtain ⟨Y,capy,rfl,-,-,-⟩:=hi2.opened;obtain ⟨Z,capz,rfl,-,-,-⟩:=hi3.opened;have hsh:=HS.out.each k (by rw [HN.out]; exact hlt)
     obtain ⟨-,hs1,hs2,hs3⟩:=hsh;have htk:s.members.take (k + 1) = s.members.take k ++ [⟨Q1d s.members k,Q0h s.members k,Q0d s.members k,Q0n s.members k,Q0s s.members k⟩]:=by
      rw [List.take_succ_eq_append_getElem (by rw [HN.out]; exact hlt)]
      unfold Q1d Q0h Q0d Q0n Q0s;rw [Q0y _ (by rw [HN.out]; exact hlt)]
     have HTK:=Lib.hid htk;have HI1:=Lib.hid (hi1.ext hxr);have HI2:=Lib.hid (hi2.ext hxr);have HI3:=Lib.hid (hi3.ext hxr);obtain ⟨nm,hnm⟩:∃ x,Q1d s.members k = x:=⟨_,rfl⟩;obtain ⟨wt,hwt⟩:∃ x,Q0h s.members k = x:=⟨_,rfl⟩;obtain ⟨l1,hl1⟩:∃ x,Q0d s.members k = x:=⟨_,rfl⟩;obtain ⟨l2,hl2⟩:∃ x,Q0n s.members k = x:=⟨_,rfl⟩;obtain ⟨l3,hl3⟩:∃ x,Q0s s.members k = x:=⟨_,rfl⟩;rw [hnm,hwt,hl1,hl2,hl3] at HTK;rw [hnm] at e0;rw [hwt] at e1;rw [hl1] at e2 HI1 hs1;rw [hl2] at e3 HI2 hs2;rw [hl3] at e4 HI3 hs3;obtain ⟨wq,rfl⟩:∃ Z,Z = wr:=⟨_,rfl⟩;clear hown hqs hmr hu hbo hoff hxr hi1 hi2 hi3 hsn htk hnm hwt hl1 hl2 hl3;go_wp2_with (with_reducible (refine Y7o ?_); refine Q0t rfl _ _ _ rfl Tryz.Z9w rfl rfl (Blk.made _ _ _) rfl rfl K0f ?_; intro w3 hb3 hl3' ho3; refine halted ?_);obtain ⟨gm,hgm⟩:∃ x,wq.heap.size = x:=⟨_,rfl⟩;have hx3:Ext wq w3:=Below.trans (Ext.box wq _) (hl3' _ (Nat.le_refl _));rw [hgm] at hb3 ⊢;have hgO:O < gm:=by have:=HBK.out.lt; omega
     have KB:=Lib.hid hb3;have HX3:=Lib.hid hx3;have HBK3:=Lib.hid (HBK.out.ext hx3);have HOW3:=Lib.hid (HOWN.out.below hx3);have HMR3:Hid (J2c w3 qs):=Lib.hid (fun q hq=>(HMR.out q hq).ext hx3);have HU3:=Lib.hid (HUU.out.below hx3);have HOF3:=Lib.hid (HOF.out.ext hx3 (by omega))
     have HJ1:=Lib.hid (HI1.out.ext hx3);have HJ2:=Lib.hid (HI2.out.ext hx3);have HJ3:=Lib.hid (HI3.out.ext hx3);have hdr:=(Ext.refl w3).drew;have hs3w:wb.heap.size <= w3.heap.size:=HOF3.out.2.1;clear hb3 hl3' ho3 hx3 hgm e0 e1 e2 e3 e4;unfold Q1x;go_wp2_with fail;refine Flow.Q4c [.p,.w,.p,.w,.p,.w,.w,.p,.w,.w,.w,.p,.w,.w,.w,.p,.w,.w,.p,.w,.last,.last,.last] [0,1,2,3,4,5,6,7,8,9,10,11,12,13,14,15,16,17,18,19,20,21,22] [[],[0],[],[2],[],[4],[],[],[7],[6,7,8],[],[],[11],[6,7,8,9,10,11,12],[],[],[15],[6,7,8,9,10,11,12,13,14,15,16],[2,3,4,5,6,7,8,9,10,11,12,13,14,15,16,17],[2,3,4,5,6,7,8,9,10,11,12,13,14,15,16,17,18],[0,1,2,3,4,5,6,7,8,9,10,11,12,13,14,15,16,17,18,19],[0,1,2,3,4,5,6,7,8,9,10,11,12,13,14,15,16,17,18,19,20],[0,1,2,3,4,5,6,7,8,9,10,11,12,13,14,15,16,17,18,19,20,21]] [20,21,22]
      [.c 0 (.pointer (some ⟨O,2,none⟩)),.c 1 (xv),.c 2 (.pointer (some ⟨gm,0,none⟩)),.c 3 (.string nm),.c 4 (.pointer (some ⟨gm,1,none⟩)),.c 5 (.int .i64 wt),⟨fun v wz=>Q0v wz (v 6) w3.heap.size 3,fun _ _ _ hx h=>h.ext hx⟩,.c 7 (.pointer (some ⟨gm,2,none⟩)),.c 8 (.slice X l1.length capx),⟨fun v wz=>(fun v w'=>Q0i w' 0 3 (.int .i64) (v 9) l1) v wz,fun _ _ _ hx h=>Q0i.below h hx⟩,⟨fun v wz=>Q0v wz (v 10) w3.heap.size 3,fun _ _ _ hx h=>h.ext hx⟩,.c 11 (.pointer (some ⟨gm,3,none⟩)),.c 12 (.slice Y l2.length capy),⟨fun v wz=>(fun v w'=>Q0i w' 0 3 (.int .i64) (v 13) l2) v wz,fun _ _ _ hx h=>Q0i.below h hx⟩,⟨fun v wz=>Q0v wz (v 14) w3.heap.size 3,fun _ _ _ hx h=>h.ext hx⟩,.c 15 (.pointer (some ⟨gm,4,none⟩)),.c 16 (.slice Z l3.length capz),⟨fun v wz=>(fun v w'=>Q0i w' 0 3 (.int .i64) (v 17) l3) v wz,fun _ _ _ hx h=>Q0i.below h hx⟩,⟨fun v wz=>(fun v w'=>v 18 = .agg #[.string nm,.int .i64 wt,v 9,v 13,v 17]) v wz,by intro _ _ _ _ h; exact h⟩,⟨fun v wz=>(fun v w'=>∃ g,v 19 = .slice (some ⟨g,0,none⟩) 1 1 /\ Blk w' g 90 (Q9j (⟨nm,wt,l1,l2,l3⟩,v 9,v 13,v 17)).toArray) v wz,by rintro v a b hx ⟨g,h1,h2⟩; exact ⟨g,h1,h2.ext hx⟩⟩,.none,.none,.none]
      [fun v w1 w'=>Q0u w' wb.heap.size 90 5 Q9j (v 20) (qs ++ [(⟨nm,wt,l1,l2,l3⟩,v 9,v 13,v 17)]) /\ w1.grownBy w' xv.ownBlock,fun v w1 w'=>v 21 = .pointer (some ⟨O,2,none⟩) /\ Q0u w' wb.heap.size 90 5 Q9j (v 20) (qs ++ [(⟨nm,wt,l1,l2,l3⟩,v 9,v 13,v 17)]) /\ w1.grownBy w' xv.ownBlock,fun v w1 w'=>∃ x wm,Q0u wm wb.heap.size 90 5 Q9j x (qs ++ [(⟨nm,wt,l1,l2,l3⟩,v 9,v 13,v 17)]) /\ w1.grownBy wm xv.ownBlock /\ w' = wm.setCell ⟨O,2,none⟩ x] (by kernel_rfl) rfl (by kernel_rfl) ⟨?g0,?g1,?g2,?g3,?g4,?g5,?g6,?g7,?g8,?g9,?g10,?g11,?g12,?g13,?g14,?g15,?g16,?g17,?g18,?g19,?g20,?g21,?g22,trivial⟩ ?post
     case g0 | g2 | g4 | g7 | g11 | g15=>
      intro v w1 hx;intro bb hbb;subst hbb;refine ⟨_,fun w=>?_,rfl⟩;go_simp
     case g1 | g3 | g5 | g8 | g12 | g16=>
      intro v w1 hx;(repeat intro (zq:v _ = _));intro bb hbb;subst hbb;have n0:w1.cell? ⟨O,2,none⟩ = some xv:=(HBK3.out.ext (hdr.trans hx)).cell 2;have n1:w1.cell? ⟨gm,0,none⟩ = some (.string nm):=(KB.out.ext (hdr.trans hx)).cell 0;have n2:w1.cell? ⟨gm,1,none⟩ = some (.int .i64 wt):=(KB.out.ext (hdr.trans hx)).cell 1;have n3:w1.cell? ⟨gm,2,none⟩ = some (.slice X l1.length capx):=(KB.out.ext (hdr.trans hx)).cell 2;have n4:w1.cell? ⟨gm,3,none⟩ = some (.slice Y l2.length capy):=(KB.out.ext (hdr.trans hx)).cell 3;have n5:w1.cell? ⟨gm,4,none⟩ = some (.slice Z l3.length capz):=(KB.out.ext (hdr.trans hx)).cell 4;intro K hK;go_simp;exact hK _ _ (Ext.refl _) rfl
     case g6 | g10 | g14=>
      intro v w1 hx;intro bb hbb;subst hbb;intro K hK;go_simp;exact hK _ _ (Ext.box _ _) (Q0v.made _ _ _ (hdr.trans hx).size)
     case g9=>
      intro v w1 hx (q6:Q0v w1 (v 6) w3.heap.size 3) (q7:v 7 = _) (q8:v 8 = _);intro bb hbb;intro K hK;have o1:bb.eval (.tmp 26) = v 6:=by rw [hbb]; dsimp only; (try simp (discharger:=decide) only [eval_put_ne]); rw [Q0a (by simp only [size_put]; exact (by decide:26 < 44))]
      have o2:bb.eval (.tmp 28) = .slice X l1.length capx:=by rw [hbb]; dsimp only; (try simp (discharger:=decide) only [eval_put_ne]); rw [Q0a (by simp only [size_put]; exact (by decide:28 < 44))]; exact q8
      exact Q1n (.tmp 26) (.tmp 28) 44 rfl w3.heap.size 3 j0 (.int .i64 0) 8 Tryz.underlying44 hj jz0 jz1 jz2 rfl (Value.int .i64) (v 6) (.slice X l1.length capx) l1 o1 q6 o2 (Q4v (HJ1.out.ext (hdr.trans hx))) (fun _ _=>rfl) (by omega) (by decide) (hdr.trans hx).size (fun v' w' hown hx2=>hK _ _ hx2 (Q0i.weaken hown (Nat.zero_le _)))
     case g13=>
      intro v w1 hx _ (q7:v 7 = _) (q8:v 8 = _) _ (q10:Q0v w1 (v 10) w3.heap.size 3) (q11:v 11 = _) (q12:v 12 = _);intro bb hbb;intro K hK;have o1:bb.eval (.tmp 30) = v 10:=by rw [hbb]; dsimp only; (try simp (discharger:=decide) only [eval_put_ne]); rw [Q0a (by simp only [size_put]; exact (by decide:30 < 44))]
      have o2:bb.eval (.tmp 32) = .slice Y l2.length capy:=by rw [hbb]; dsimp only; (try simp (discharger:=decide) only [eval_put_ne]); rw [Q0a (by simp only [size_put]; exact (by decide:32 < 44))]; exact q12
      exact Q1n (.tmp 30) (.tmp 32) 44 rfl w3.heap.size 3 j0 (.int .i64 0) 8 Tryz.underlying44 hj jz0 jz1 jz2 rfl (Value.int .i64) (v 10) (.slice Y l2.length capy) l2 o1 q10 o2 (Q4v (HJ2.out.ext (hdr.trans hx))) (fun _ _=>rfl) (by omega) (by decide) (hdr.trans hx).size (fun v' w' hown hx2=>hK _ _ hx2 (Q0i.weaken hown (Nat.zero_le _)))
     case g17=>
      intro v w1 hx _ (q7:v 7 = _) (q8:v 8 = _) _ _ (q11:v 11 = _) (q12:v 12 = _) _ (q14:Q0v w1 (v 14) w3.heap.size 3) (q15:v 15 = _) (q16:v 16 = _);intro bb hbb;intro K hK;have o1:bb.eval (.tmp 34) = v 14:=by rw [hbb]; dsimp only; (try simp (discharger:=decide) only [eval_put_ne]); rw [Q0a (by simp only [size_put]; exact (by decide:34 < 44))]
      have o2:bb.eval (.tmp 36) = .slice Z l3.length capz:=by rw [hbb]; dsimp only; (try simp (discharger:=decide) only [eval_put_ne]); rw [Q0a (by simp only [size_put]; exact (by decide:36 < 44))]; exact q16
      exact Q1n (.tmp 34) (.tmp 36) 44 rfl w3.heap.size 3 j0 (.int .i64 0) 8 Tryz.underlying44 hj jz0 jz1 jz2 rfl (Value.int .i64) (v 14) (.slice Z l3.length capz) l3 o1 q14 o2 (Q4v (HJ3.out.ext (hdr.trans hx))) (fun _ _=>rfl) (by omega) (by decide) (hdr.trans hx).size (fun v' w' hown hx2=>hK _ _ hx2 (Q0i.weaken hown (Nat.zero_le _)))
     case g18=>
      intro v w1 hx (q2:v 2 = _) (q3:v 3 = _) (q4:v 4 = _) (q5:v 5 = _) _ (q7:v 7 = _) (q8:v 8 = _) (q9:(fun v w'=>Q0i w' 0 3 (.int .i64) (v 9) l1) v w1) _ (q11:v 11 = _) (q12:v 12 = _) (q13:(fun v w'=>Q0i w' 0 3 (.int .i64) (v 13) l2) v w1) _ (q15:v 15 = _) (q16:v 16 = _) (q17:(fun v w'=>Q0i w' 0 3 (.int .i64) (v 17) l3) v w1);intro bb hbb;obtain ⟨s9,c9,e9,_⟩:=Q0i.shape q9;obtain ⟨s10,c10,e10,_⟩:=Q0i.shape q13;obtain ⟨s11,c11,e11,_⟩:=Q0i.shape q17;have o1:bb.eval (.tmp 23) = .string nm:=by rw [hbb]; dsimp only; (try simp (discharger:=decide) only [eval_put_ne]); rw [Q0a (by simp only [size_put]; exact (by decide:23 < 44))]; exact q3
      have o2:bb.eval (.tmp 25) = .int .i64 wt:=by rw [hbb]; dsimp only; (try simp (discharger:=decide) only [eval_put_ne]); rw [Q0a (by simp only [size_put]; exact (by decide:25 < 44))]; exact q5
      have o3:bb.eval (.tmp 29) = v 9:=by rw [hbb]; dsimp only; (try simp (discharger:=decide) only [eval_put_ne]); rw [Q0a (by simp only [size_put]; exact (by decide:29 < 44))]
      have o4:bb.eval (.tmp 33) = v 13:=by rw [hbb]; dsimp only; (try simp (discharger:=decide) only [eval_put_ne]); rw [Q0a (by simp only [size_put]; exact (by decide:33 < 44))]
      have o5:bb.eval (.tmp 37) = v 17:=by rw [hbb]; dsimp only; (try simp (discharger:=decide) only [eval_put_ne]); rw [Q0a (by simp only [size_put]; exact (by decide:37 < 44))]
      rw [e9] at o3;rw [e10] at o4;rw [e11] at o5;exact ⟨_,fun w=>Y2l _ (.tmp 23) (.tmp 25) (.tmp 29) (.tmp 33) (.tmp 37) rfl o1 o2 o3 o4 o5 (fun w=>X5s w _ _ _ _ _ _ _ _ _ _ _),by show Value.agg #[.string nm,.int .i64 wt,.slice s9 l1.length c9,.slice s10 l2.length c10,.slice s11 l3.length c11] = Value.agg #[.string nm,.int .i64 wt,v 9,v 13,v 17]; rw [e9,e10,e11]⟩
     case g19=>
      intro v w1 hx (q2:v 2 = _) (q3:v 3 = _) (q4:v 4 = _) (q5:v 5 = _) _ (q7:v 7 = _) (q8:v 8 = _) (q9:(fun v w'=>Q0i w' 0 3 (.int .i64) (v 9) l1) v w1) _ (q11:v 11 = _) (q12:v 12 = _) (q13:(fun v w'=>Q0i w' 0 3 (.int .i64) (v 13) l2) v w1) _ (q15:v 15 = _) (q16:v 16 = _) (q17:(fun v w'=>Q0i w' 0 3 (.int .i64) (v 17) l3) v w1) (q18:(fun v w'=>v 18 = .agg #[.string nm,.int .i64 wt,v 9,v 13,v 17]) v w1);intro bb hbb;intro K hK;obtain ⟨s9,c9,e9,_⟩:=Q0i.shape q9;obtain ⟨s10,c10,e10,_⟩:=Q0i.shape q13;obtain ⟨s11,c11,e11,_⟩:=Q0i.shape q17;have o1:bb.eval (.tmp 38) = .agg #[.string nm,.int .i64 wt,v 9,v 13,v 17]:=by rw [hbb]; dsimp only; (try simp (discharger:=decide) only [eval_put_ne]); rw [Q0a (by simp only [size_put]; exact (by decide:38 < 44))]; exact q18
      rw [e9,e10,e11] at o1;have hbl:Blk (w1.alloc (.cells (Value.agg #[.string nm,.int .i64 wt,.slice s9 l1.length c9,.slice s10 l2.length c10,.slice s11 l3.length c11]).cells 90)) w1.heap.size 90 (Q9j (⟨nm,wt,l1,l2,l3⟩,v 9,v 13,v 17)).toArray:=by rw [e9,e10,e11]; exact Blk.made _ _ _
      exact Q3r 72 90 (.tmp 38) rfl o1 (Y9p w1 _ _ _ _ _ _ _ _ _ _ _) (hK _ _ (Ext.box _ _) ⟨_,rfl,hbl⟩)
     case g20=>
      intro v w1 hx (q0:v 0 = _) (q1:v 1 = _) (q2:v 2 = _) (q3:v 3 = _) (q4:v 4 = _) (q5:v 5 = _) _ (q7:v 7 = _) (q8:v 8 = _) (q9:(fun v w'=>Q0i w' 0 3 (.int .i64) (v 9) l1) v w1) _ (q11:v 11 = _) (q12:v 12 = _) (q13:(fun v w'=>Q0i w' 0 3 (.int .i64) (v 13) l2) v w1) _ (q15:v 15 = _) (q16:v 16 = _) (q17:(fun v w'=>Q0i w' 0 3 (.int .i64) (v 17) l3) v w1) _ (q19:(fun v w'=>∃ g,v 19 = .slice (some ⟨g,0,none⟩) 1 1 /\ Blk w' g 90 (Q9j (⟨nm,wt,l1,l2,l3⟩,v 9,v 13,v 17)).toArray) v w1);intro wl hT;obtain rfl:wl = w1:=hT;intro bb hbb;intro K hK;obtain ⟨g,hg10,hb10⟩:=q19;have o1:bb.eval (.tmp 21) = xv:=by rw [hbb]; dsimp only; (try simp (discharger:=decide) only [eval_put_ne]); rw [Q0a (by simp only [size_put]; exact (by decide:21 < 44))]; exact q1
      have o2:bb.eval (.tmp 39) = .slice (some ⟨g,0,none⟩) 1 1:=by rw [hbb]; dsimp only; (try simp (discharger:=decide) only [eval_put_ne]); rw [Q0a (by simp only [size_put]; exact (by decide:39 < 44))]; exact hg10
      have hxx:=hdr.trans hx;exact Q2t _ _ 72 rfl wb.heap.size 90 l0 (.agg #[.string ⟨#[]⟩,.int .i64 0,.slice none 0 0,.slice none 0 0,.slice none 0 0]) 5 96 Tryz.underlying72 li lz0 lz1 lz2 rfl (by decide) Q9j X3s xv _ (⟨nm,wt,l1,l2,l3⟩,v 9,v 13,v 17) o1 (HOW3.out.below hxx) ⟨g,0,none⟩ 1 o2 (Q5k hb10) (Y5m.one (q:=(⟨nm,wt,l1,l2,l3⟩,v 9,v 13,v 17)) ⟨q9,q13,q17⟩) (by omega) (by decide) (by have:=hxx.size; omega) (fun v' w' h1 h2=>hK _ _ ⟨h1,h2⟩)
     case g21=>
      intro v w1 hx (q0:v 0 = _) (q1:v 1 = _) (q2:v 2 = _) (q3:v 3 = _) (q4:v 4 = _) (q5:v 5 = _) _ (q7:v 7 = _) (q8:v 8 = _) _ _ (q11:v 11 = _) (q12:v 12 = _) _ _ (q15:v 15 = _) (q16:v 16 = _) _ _ _;intro wl hT;replace hT:(fun v w1 w'=>Q0u w' wb.heap.size 90 5 Q9j (v 20) (qs ++ [(⟨nm,wt,l1,l2,l3⟩,v 9,v 13,v 17)]) /\ w1.grownBy w' xv.ownBlock) v w1 wl:=hT;intro bb hbb;subst hbb;intro K hK;go_simp;exact hK _ _ ⟨rfl,hT⟩
     case g22=>
      intro v w1 hx (q0:v 0 = _) (q1:v 1 = _) (q2:v 2 = _) (q3:v 3 = _) (q4:v 4 = _) (q5:v 5 = _) _ (q7:v 7 = _) (q8:v 8 = _) _ _ (q11:v 11 = _) (q12:v 12 = _) _ _ (q15:v 15 = _) (q16:v 16 = _) _ _ _;intro wl hT;replace hT:(fun v w1 w'=>v 21 = .pointer (some ⟨O,2,none⟩) /\ Q0u w' wb.heap.size 90 5 Q9j (v 20) (qs ++ [(⟨nm,wt,l1,l2,l3⟩,v 9,v 13,v 17)]) /\ w1.grownBy w' xv.ownBlock) v w1 wl:=hT;intro bb hbb;intro K hK;obtain ⟨hT0,hT1,hT2⟩:=hT;have hxx:=hdr.trans hx;obtain ⟨bp,cp,hsh,_⟩:=hT1.shape;have o1:bb.eval (.tmp 41) = .pointer (some ⟨O,2,none⟩):=by rw [hbb]; dsimp only; (try simp (discharger:=decide) only [eval_put_ne]); rw [Q0a (by simp only [size_put]; exact (by decide:41 < 44))]; exact hT0
      have o2:bb.eval (.tmp 40) = v 20:=by rw [hbb]; dsimp only; (try simp (discharger:=decide) only [eval_put_ne]); rw [Q0a (by simp only [size_put]; exact (by decide:40 < 44))]
      have hbl:=Go.Tw.Q6f (HBK3.out.ext hxx) (HOW3.out.below hxx) (by omega) hT2
      exact Q5q _ _ rfl Tryz.J0n (g:=O) (k:=2) o1 o2 (by rw [hsh]; rfl) (by rw [hsh]; rfl) hbl (by show 2 < 3; omega) (fun v'=>hK _ _ ⟨v 20,wl,hT1,hT2,rfl⟩)
     case post =>
      intro v w1 hx;(iterate 6 intro (zq:v _ = _));intro (q6:Q0v w1 (v 6) w3.heap.size 3);(iterate 2 intro (zq:v _ = _));intro (q9:(fun v w'=>Q0i w' 0 3 (.int .i64) (v 9) l1) v w1) (q10:Q0v w1 (v 10) w3.heap.size 3);(iterate 2 intro (zq:v _ = _));intro (q13:(fun v w'=>Q0i w' 0 3 (.int .i64) (v 13) l2) v w1) (q14:Q0v w1 (v 14) w3.heap.size 3);(iterate 2 intro (zq:v _ = _));intro (q17:(fun v w'=>Q0i w' 0 3 (.int .i64) (v 17) l3) v w1) (q18:(fun v w'=>v 18 = .agg #[.string nm,.int .i64 wt,v 9,v 13,v 17]) v w1) (q19:(fun v w'=>∃ g,v 19 = .slice (some ⟨g,0,none⟩) 1 1 /\ Blk w' g 90 (Q9j (⟨nm,wt,l1,l2,l3⟩,v 9,v 13,v 17)).toArray) v w1);intro w2 hE;replace hE:(fun v w1 w'=>∃ x wm,Q0u wm wb.heap.size 90 5 Q9j x (qs ++ [(⟨nm,wt,l1,l2,l3⟩,v 9,v 13,v 17)]) /\ w1.grownBy wm xv.ownBlock /\ w' = wm.setCell ⟨O,2,none⟩ x) v w1 w2:=hE;simp only [Flow.acts,Act.put];go_simp;obtain ⟨x,wm,hom,hgm,rfl⟩:=hE;have hxx:=hdr.trans hx;have hbm:=Go.Tw.Q6f (HBK3.out.ext hxx) (HOW3.out.below hxx) (by omega) hgm
      have hof:=((HOF3.out.ext hxx (by omega)).grown (HOW3.out.below hxx) (by omega) (by omega) hgm).set 2 x
      have HO6:=Lib.hid (hom.Z5f (p:=⟨O,2,none⟩) (by show O < wb.heap.size; omega) x)
      have HB6:=Lib.hid (hbm.set 2 x);have HOF6:=Lib.hid hof;have HU6:=Lib.hid (Q4y (u:=x) (k:=2) (Q2j (HU3.out.below hxx) (HOW3.out.below hxx) (by decide) hgm) hbm (by decide))
      have HM6:Hid (J2c (wm.setCell ⟨O,2,none⟩ x) (qs ++ [(⟨nm,wt,l1,l2,l3⟩,v 9,v 13,v 17)])):=Lib.hid (fun q hq=>by
       rcases List.mem_append.1 hq with hq | hq
       . exact (((HMR3.out q hq).ext hxx).grown (HOW3.out.below hxx) (by decide) hgm).set hbm (by decide)
       . rw [List.mem_singleton.1 hq]
         exact (Y5m.grown (q:=(⟨nm,wt,l1,l2,l3⟩,v 9,v 13,v 17)) ⟨q9,q13,q17⟩ (HOW3.out.below hxx) (by decide) hgm).set hbm (by decide))
      obtain ⟨w6,hw6⟩:∃ y,wm.setCell ⟨O,2,none⟩ x = y:=⟨_,rfl⟩;rw [hw6] at HO6 HB6 HOF6 HU6 HM6 ⊢;clear hw6 hom hgm hxx hx hbm hof hdr q6 q9 q10 q13 q14 q17 q18 q19;(repeat clear zq);go_wp2;go_roundw
      case rel=>exact ⟨k + 1,x,qs ++ [(⟨nm,wt,l1,l2,l3⟩,v 9,v 13,v 17)],by omega,by go_num,HO6.out,by rw [List.map_append,HQS.out,HTK.out]; rfl,HM6.out,HU6.out,HB6.out,HOF6.out⟩
      case measure=>simp [intOf]; omega
   . have hkI:¬ (k:Int) < n:=by omega
     have hkn:k = n:=by omega
     have hall:s.members.take k = s.members:=by rw [List.take_of_length_le (by rw [HN.out]; omega)]
     rw [hall] at hqs;have hsm:∀ q ∈ qs,Short q.1.name /\ q.1.classes.length <= 1000 /\ q.1.outside.length <= 1000 /\ q.1.inflow.length <= 1000:=fun q hq=>by
      have hm:q.1 ∈ s.members:=by rw [<- hqs]; exact List.mem_map_of_mem hq
      obtain ⟨j,hj,he⟩:=List.getElem_of_mem hm;obtain ⟨_,_,_,_,_,_,_,_,_,_,_,_,_,_,_,hsn⟩:=HC.out j (by rw [<- HN.out]; exact hj)
      obtain ⟨-,h1,h2,h3⟩:=HS.out.each j hj;unfold Q1d at hsn;unfold Q0d at h1;unfold Q0n at h2;unfold Q0s at h3;rw [Q0y _ hj,he] at hsn h1 h2 h3;exact ⟨hsn,by omega,by omega,by omega⟩
     have HSM:=Lib.hid hsm;have hr:=HK1.out.below HOF.out.1 (by omega)
     have HRR:=Lib.hid hr;have HXR:=Lib.hid hxr;have HXO:=Lib.hid hqs;have HOWN:=Lib.hid hown;have HBO2:=Lib.hid hbo;obtain ⟨ax,cx,ex,-⟩:=hown.shape;have HQK:=Lib.hid hqk;have hone:∀ u ∈ (#[Value.int .i64 lim,uv,xv]:Array Value).toList,u.oneCell' = true:=by
      intro u hu;simp only [List.mem_cons,List.not_mem_nil,or_false] at hu
      rcases hu with rfl | rfl | rfl
      . rfl
      . rw [HEU.out]; rfl
      . rw [ex]; rfl
     have HONE:=Lib.hid hone;clear hown hqs hmr hu hbo hoff hxr hall hsm hone ex hqk;go_wp2_with (first | (refine Q0j rfl _ _ rfl Tryz.X1v Tryz.Q4t rfl HBO2.out rfl ?_) | (refine Q0t rfl _ _ 74 rfl Tryz.Q4t rfl rfl hr rfl rfl HONE.out ?_; intro w9 hb9 hl9 ho9))
     refine bodyPost_ret (Q2v Tryz.results26 rfl hb9 Tryz.X1v Tryz.Q4t) rfl ?_;refine ⟨_,rfl,⟨_,_,by rw [<- HLIM.out],⟨?_,?_⟩⟩,Below.trans HXR.out (hl9 _ (by have:=HGS.out; omega))⟩
     . exact (Q5e HUU.out HRR.out (by decide) ho9).ints (by rw [HT.out]; omega)
     . have h:=Y9l (HOWN.out.only (g:=gs + 1) (by omega) ho9) (by rw [HQK.out]; omega) (fun q hq=>(HMR.out q hq).only HRR.out (by decide) ho9) HSM.out
       rw [HXO.out] at h;exact h
end Go.Proofs
namespace Go.Tw
variable {s:Q0b}
theorem Q0m.err (h:Q0m s):s.err = 0:=by
 have hm:∀ k,k < s.members.length -> s.Q2w k = 0:=by
  intro k hk;unfold Q0b.Q2w;have h2:Q3d s.members k = false:=by
   unfold Q3d;rw [List.any_eq_false];intro i hi;rw [X1a (h.twice k hk i (List.mem_range.1 hi))]; simp
  rw [if_neg (by rw [h.names k hk]; simp),if_neg (by rw [h2]; simp),if_neg (by rw [Q1p.2 (h.weights k hk)]; simp),if_neg (fun hn=>hn (h.shaped k hk)),Q1r]
  intro x hx;simp only [List.mem_cons,List.not_mem_nil,or_false] at hx
  rcases hx with e | e | e
  . rw [e]; exact Q3n.2 (h.digits k hk)
  . rw [e]; exact Q3n.2 (h.outside k hk)
  . rw [e]; exact Q3n.2 (h.inflow k hk)
 have h1:=h.tides;have h2:=h.some;unfold Q0b.err;rw [if_neg (by rw [Q1p.2 h.limit]; simp),if_neg (by omega),if_neg (by omega),if_neg (by rw [Q3n.2 h.delays]; simp),if_neg (by omega),if_neg (by omega),Q1r]
 intro x hx;obtain ⟨k,hk,rfl⟩:=List.mem_map.1 hx;exact hm k (List.mem_range.1 hk)
def higher (s:Q0b) (n:Int):Q0b:=⟨n,s.ships,s.members⟩
def X2r (s:Q0b) (g:Nat -> Int):Q0b:=⟨s.limit,s.ships,s.members.mapIdx fun i m=>{ m with classes:=m.classes.map fun _=>g i }⟩
theorem Q2b (g:Nat -> Int):(X2r s g).members.length = s.members.length:=by simp [X2r]
theorem X1x (g:Nat -> Int) {i:Nat} (hi:i < s.members.length):Q1k (X2r s g) i = { Q1k s i with classes:=(Q1k s i).classes.map fun _=>g i }:=by
 unfold Q1k;rw [Q0y _ (by rw [Q2b]; exact hi),Q0y _ hi]
 simp [X2r]
theorem Q4j (hf:Fine s) (g:Nat -> Int) {i:Nat} (hi:i < s.members.length):Q0d (X2r s g).members i = List.replicate s.ships.length (g i):=by
 have:=congrArg Mem.classes (X1x (s:=s) g hi);have h2:Q0d (X2r s g).members i = (Q0d s.members i).map fun _=>g i:=this;rw [h2,List.map_const',(hf.shaped i hi).1]
theorem Y3r (g:Nat -> Int) {i:Nat} (hi:i < s.members.length) (lim:Int) (c:List Bool):(Q1k (X2r s g) i).keeps lim c = (Q1k s i).keeps lim c:=by
 have go:∀ (m:Mem) (l:List Int) (t:Nat) (lv:Int) (c:List Bool),({ m with classes:=l }:Mem).Q2i t lv c = m.Q2i t lv c:=by
  intro m l t lv c
  induction c generalizing t lv with
  | nil=>rfl
  | cons x c ih=>simp only [Mem.Q2i,Mem.stepT]; rw [ih]
 rw [X1x g hi];unfold Mem.keeps Mem.Q8n;rw [go]
theorem Z5h (hv:Q0m s) {g:Nat -> Int} (hg:∀ i,i < s.members.length -> 0 <= g i /\ g i <= 9):Q0m (X2r s g):=by
 have e:∀ i,i < s.members.length -> Q1d (X2r s g).members i = Q1d s.members i /\ Q0h (X2r s g).members i = Q0h s.members i /\ Q0n (X2r s g).members i = Q0n s.members i /\ Q0s (X2r s g).members i = Q0s s.members i:=by
  intro i hi;have:=X1x (s:=s) g hi;have a1:=congrArg Mem.name this;have a2:=congrArg Mem.weight this;have a3:=congrArg Mem.outside this;have a4:=congrArg Mem.inflow this;exact ⟨a1,a2,a3,a4⟩
 exact
 { shaped:=fun k hk=>by
    rw [Q2b] at hk;refine ⟨by rw [Q4j hv.toFine g hk,List.length_replicate]; rfl,?_,?_⟩
    . rw [(e k hk).2.2.1]; exact (hv.shaped k hk).2.1
    . rw [(e k hk).2.2.2]; exact (hv.shaped k hk).2.2
   digits:=fun k hk=>by
    rw [Q2b] at hk;rw [Q4j hv.toFine g hk];intro x hx;rw [List.eq_of_mem_replicate hx]; exact hg k hk
   limit:=hv.limit
   tides:=hv.tides
   delays:=hv.delays
   some:=by rw [Q2b]; exact hv.some
   names:=fun k hk=>by rw [Q2b] at hk; rw [(e k hk).1]; exact hv.names k hk
   twice:=fun k hk i hi=>by rw [Q2b] at hk; rw [(e k hk).1,(e i (by omega)).1]; exact hv.twice k hk i hi
   weights:=fun k hk=>by rw [Q2b] at hk; rw [(e k hk).2.1]; exact hv.weights k hk
   outside:=fun k hk=>by rw [Q2b] at hk; rw [(e k hk).2.2.1]; exact hv.outside k hk
   inflow:=fun k hk=>by rw [Q2b] at hk; rw [(e k hk).2.2.2]; exact hv.inflow k hk }
theorem X1m (g:Nat -> Int) {i:Nat} (hi:i < s.members.length):Q0h (X2r s g).members i = Q0h s.members i:=by
 have a2:=congrArg Mem.weight (X1x (s:=s) g hi);exact a2
theorem J0j (hf:Fine s) (g:Nat -> Int) {i u:Nat} (hi:i < s.members.length) (hu:u <= s.ships.length):hs (X2r s g) i u = List.replicate u (g i):=by
 rw [hs,Q4j hf g hi,List.take_replicate,Nat.min_eq_left hu]
end Go.Tw
