/- Part of a proof. -/
import Derived.Test.YthnobngcipaljaaGreatDoorPg03
import Derived.Laws.MakeOwn
import Derived.ChangeKeysEq
set_option maxRecDepth 1000000
set_option maxHeartbeats 64000000
set_option linter.unusedVariables false
set_option linter.unusedSimpArgs false
set_option linter.constructorNameAsVariable false
namespace Go.Proofs
open Go.RowKit Go.Tw Go.Flow Tryz
attribute [local go_sem] Oper.semAt_some
theorem fzb04 {a b:Nat} (h:a < b:=by rw [hbb]; simp only [Flow.size_put]; show _ < 29; decide):a < b:=h
theorem fzc04 {u:Type} {a b:u} (h:a=b:=by rw [hbb]; dsimp only; (try simp (discharger:=decide) only [Flow.eval_put_ne]); rw [Flow.Q0a (by simp only [Flow.size_put]; show _ < 29; decide)]; assumption):a=b:=h
theorem fze04 {u:Type} {a b:u} (h:a=b:=by rw [hbb]; dsimp only; (try simp (discharger:=decide) only [Flow.eval_put_ne]); rfl):a=b:=h
theorem J6o:prog.underlying 245=some (.map 9 4):=by kernel_rfl
theorem K0a:prog.underlying 9=some .string:=by kernel_rfl
theorem J9z (w:World):(zeroValue 4).run prog w=.ok (.bool false) w:=by kernel_rfl
theorem J8a {α:Type} {enc:α -> Value} {w:World} {v:Value} {x:α} (h:Q3q w v (enc x)):Src w enc v [x]:=by
 obtain ⟨g,h1,h2⟩:=h;exact ⟨_,1,h1,fun j hj=>⟨g,0,rfl,by
  have:j=0:=by simp at hj; exact hj
  subst this; exact h2⟩⟩
def X5z (p:List Rul) (l:List Int) (k:Nat):List Bool:=(List.range k).map fun t=>Tw.look p (l.take (t + 1))
theorem Z2a (p:List Rul) (l:List Int) (k:Nat):X5z p l (k + 1)=X5z p l k ++ [Tw.look p (l.take (k + 1))]:=by unfold X5z; rw [List.range_succ,List.map_append]; rfl
theorem Z8l (p:List Rul) (l:List Int) (k:Nat):(X5z p l k).length=k:=by simp [X5z]
theorem Y2h (w:World) (v:Value) (m:Mem) (p:List Rul) (B b:Nat) (hv:X3u w v m) (hn:(p.map Rul.classes).Nodup) (hd:∀ k,k < p.length -> Digits (Q0k p k)) (hm:Digits m.classes) (hl:m.classes.length <= 8)
    (hB:w.cell? ⟨B,0,none⟩=some (.map (some b))) (hM:Q6u w b (Q8f p p.length)) :
    Calls prog 168 #[v,.pointer (some ⟨B,0,none⟩)] w fun e w'=>∃ x,e=.returned x /\ Q0n w' w.heap.size 4 .bool x (Q0l p m.classes) /\ Ext w w':=by
 obtain ⟨i0,hi,fq,mq,iq⟩:=info_parts X8o;obtain ⟨x,y,z,rfl,hx,hy,hz⟩:=hv;have D4:=Lib.hid hx;obtain ⟨X,Rq,rfl,-,L5,S9⟩:=hx.opened;obtain ⟨Y,Jq,rfl,-,-,-⟩:=hy.opened;obtain ⟨Z,Bq,rfl,-,-,-⟩:=hz.opened;have CQ:=Lib.hid S9;obtain ⟨lc,mj⟩:∃ x,m.classes=x:=⟨_,rfl⟩;rw [mj] at D4 L5 CQ hm hl ⊢;obtain ⟨lo,Lx⟩:∃ x,m.outside.length=x:=⟨_,rfl⟩;obtain ⟨li,yx⟩:∃ x,m.inflow.length=x:=⟨_,rfl⟩;rw [Lx,yx];have sQ:Hid (∀ (W:World) (k:Nat),Ext w W -> (Instr.lookup 245 (.map (some b)) (.string (Q7g (lc.take k))) false).run prog W=.ok (.bool (Tw.look p (lc.take k))) W):=Lib.hid (fun W k hW=>by
  have h:=Y2n (P:=prog) (hM.ext hW) J6o K0a (J9z _) (Q7g (lc.take k)) false;rw [if_neg (by simp),Y9e hn hd (Q6e hm k)] at h
  exact h)
 have O7:=Lib.hid hm;have d7:=Lib.hid hB;clear hx hy hz S9 hM hn hd hm mj Lx yx hB;go_enter func168,ntmps168;go_wp2_with fail;change Code.wp _ _ _ _ (w.alloc (.cells #[.string m.name,.int .i64 m.weight,.slice X lc.length Rq,.slice Y lo Jq,.slice Z li Bq] 69));obtain ⟨W,Nq,k0,Sq,eW⟩:=Q1y w 69 #[.string m.name,.int .i64 m.weight,.slice X lc.length Rq,.slice Y lo Jq,.slice Z li Bq];rw [Nq];clear Nq;have K0:=Lib.hid k0;have c0_2:=k0.cell 2;simp only [Go.Tw.gA,Go.Tw.gB,Go.Tw.gC] at c0_2;obtain ⟨gm,xz⟩:∃ x,w.heap.size=x:=⟨_,rfl⟩;rw [xz] at K0 eW c0_2 ⊢;clear k0;go_wp2;clear c0_2
 go_loopw [4,9] (fun o i wr=>∃ k:Nat,k <= lc.length /\ i=.int .i64 k /\ Q0n wr W.heap.size 4 .bool o (X5z p lc k) /\ Ext W wr) (fun _ i _=>lc.length - (intOf i).toNat)
 case atStart=>exact ⟨0,Nat.zero_le _,rfl,Q0n.nil _ _ _ _,Ext.refl _⟩
 case round =>
  obtain ⟨k,hk,rfl,Yq,Dq⟩:=hrel;obtain ⟨Ao,co,rfl,-⟩:=Yq.shape;have N3:=Z8l p lc k
  by_cases Tq:k < lc.length
  . obtain ⟨bc,oc,R2,-⟩:=CQ.out k Tq
    subst R2;have rq:=Lib.hid Dq;have lq:=Lib.hid Yq;have Lj:(k:Int) < lc.length:=by omega
    have V9:k + 1 <= Rq:=by omega
    have l7:(k:Int) + 1 <= (Rq:Int):=by omega
    have Y5:¬ ((0:Int) <= (k:Int) + 1 -> (Rq:Int) < (k:Int) + 1):=by omega
    have V5:¬ Rq=0:=by omega
    have U5:¬ (k:Int) + 1 < 0:=by omega
    have T5:((k:Int) + 1).toNat=k + 1:=by omega
    have Z2:IntKind.i64.wrap ((k:Int) + 1)=(k:Int) + 1:=Q3b _ (by omega) (by omega)
    have Gj:=Lib.hid (Z2a p lc k);have Sw:Hid (Q0e w (.slice (some ⟨bc,oc,none⟩) (k + 1) Rq) (lc.take (k + 1))):=Lib.hid (X0p D4.out (by omega))
    have Gk:Hid ((lc.take (k + 1)).length <= 4096):=Lib.hid (by rw [List.length_take]; omega)
    have sZ:=Lib.hid (Q6e O7.out (k + 1));have rZ:=Lib.hid (fun W hW=>sQ.out W (k + 1) hW);obtain ⟨lp,R9⟩:∃ x,lc.take (k + 1)=x:=⟨_,rfl⟩;rw [R9] at Gj Sw Gk sZ rZ;obtain ⟨q,hq⟩:∃ x,Tw.look p lp=x:=⟨_,rfl⟩;rw [hq] at Gj rZ;have rQ:(X5z p lc k).length + 1 <= 4398046511104:=by omega
    obtain ⟨xs,pe⟩:∃ x,X5z p lc k=x:=⟨_,rfl⟩;rw [pe] at lq N3 rQ Gj ⊢;have ep:=Lib.hid N3;have qG:=Lib.hid rQ;have Vq:=(Ext.refl wr).drew;clear Yq R9 hq Dq N3 rQ pe
    go_light
    go_wp2;refine Flow.Q4h [.p,.w,.p,.w,.p,.p,.p,.w,.w,.w,.last,.last] [0,1,2,3,4,5,6,7,8,9,10,11] [[],[],[],[2],[],[4],[2,3,4,5],[2,3,4,5,6],[1,2,3,4,5,6,7],[1,2,3,4,5,6,7,8],[0,1,2,3,4,5,6,7,8,9],[0,1,2,3,4,5,6,7,8,9,10]] [10,11]
     [.c 0 (.slice Ao xs.length co),.c 1 (.map (some b)),.c 2 (.pointer (some ⟨gm,2,none⟩)),.c 3 (.slice (some ⟨bc,oc,none⟩) lc.length Rq),.c 4 (.int .i64 (k:Int)),.c 5 (.int .i64 ((k:Int) + 1)),.c 6 (.slice (some ⟨bc,oc,none⟩) (k + 1) Rq),.c 7 (.string (Q7g lp)),.c 8 (.bool q),⟨fun v wz=>(fun v w'=>Q3q w' (v 9) (.bool q)) v wz,fun _ _ _ hx h=>Q3q.ext h hx⟩,.none,.none]
     [fun v w1 w'=>Q0n w' W.heap.size 4 .bool (v 10) (xs ++ [q]) /\ w1.grownBy w' (Value.slice Ao xs.length co).ownBlock,fun v w1 w'=>v 11=v 10 /\ Q0n w' W.heap.size 4 .bool (v 10) (xs ++ [q]) /\ w1.grownBy w' (Value.slice Ao xs.length co).ownBlock] (by kernel_rfl) rfl (by kernel_rfl) ⟨?g0,?g1,?g2,?g3,?g4,?g5,?g6,?g7,?g8,?g9,?g10,?g11,trivial⟩ ?post
    case g0 | g2 | g4=>
     intro v w1 hx;intro bb hbb;subst hbb;refine ⟨_,fun w=>?_,rfl⟩;go_simp
    case g1=>
     intro v w1 hx;intro bb hbb;subst hbb;have n0:w1.cell? ⟨B,0,none⟩=some (.map (some b)):=(Sq.out.trans (rq.out.trans (Vq.trans hx))).cell d7.out;intro K hK;go_simp;exact hK _ _ (Ext.refl _) rfl
    case g3=>
     intro v w1 hx;(repeat intro (zq:v _=_));intro bb hbb;subst hbb;have n0:w1.cell? ⟨gm,2,none⟩=some (.slice (some ⟨bc,oc,none⟩) lc.length Rq):=(K0.out.ext (rq.out.trans (Vq.trans hx))).cell 2;intro K hK;go_simp;exact hK _ _ (Ext.refl _) rfl
    case g5 | g6=>
     intro v w1 hx;(repeat intro (zq:v _=_));intro bb hbb;subst hbb;refine ⟨_,fun w=>?_,rfl⟩;go_simp
    case g7=>
     intro v w1 hx;(repeat intro (zq:v _=_));intro bb hbb;subst hbb;intro K hK;go_simp;refine Q0d (Y5r w1 _ lp (Sw.out.ext (Sq.out.trans (rq.out.trans (Vq.trans hx)))) Gk.out sZ.out) ?_;rintro e w2 ⟨rfl,Mq⟩;exact ⟨_,rfl,hK _ _ Mq rfl⟩
    case g8=>
     intro v w1 hx;(repeat intro (zq:v _=_));intro bb hbb;subst hbb;have kg:=rZ.out w1 (Sq.out.trans (rq.out.trans (Vq.trans hx)));intro K hK;go_simp;exact hK _ _ (Ext.refl _) rfl
    case g9=>
     intro v w1 hx;(repeat intro (zq:v _=_));intro bb hbb;subst hbb;intro K hK;go_simp;exact hK _ _ (Ext.box _ _) (Q3q.made _ _ _)
    case g10=>
     intro v w1 hx (q0:v 0=_) (q1:v 1=_) (q2:v 2=_) (q3:v 3=_) (q4:v 4=_) (q5:v 5=_) (q6:v 6=_) (q7:v 7=_) (q8:v 8=_) (q9:(fun v w'=>Q3q w' (v 9) (.bool q)) v w1);intro wl hT;obtain rfl:wl=w1:=hT;intro bb hbb;intro K hK;have o1:bb.eval (.tmp 12)=.slice Ao xs.length co:=by rw [hbb]; dsimp only; (try simp (discharger:=decide) only [eval_put_ne]); rw [Q0a (by exact (by decide:12 < 25))]; exact q0
     have o2:bb.eval (.tmp 21)=v 9:=by rw [hbb]; dsimp only; (try simp (discharger:=decide) only [eval_put_ne]); rw [Q0a (by simp only [size_put]; exact (by decide:21 < 25))]
     refine Q1s _ _ 82 rfl W.heap.size 4 i0 (.bool false) 1 underlying82 hi fq mq iq rfl .bool (.slice Ao xs.length co) (v 9) xs [q] o1 (lq.out.below (Vq.trans hx)) o2 (J8a q9) (fun y hy=>rfl) (by have:=qG.out; rw [List.length_singleton]; exact this) (by decide) (by have:=rq.out.size; have:=hx.size; have:wr.drew.heap.size=wr.heap.size:=rfl; omega) (fun v' w' Yq hg=>hK _ _ ⟨Yq,hg⟩)
    case g11=>
     intro v w1 hx (q0:v 0=_) (q1:v 1=_) (q2:v 2=_) (q3:v 3=_) (q4:v 4=_) (q5:v 5=_) (q6:v 6=_) (q7:v 7=_) (q8:v 8=_) _;intro wl hT;replace hT:(fun v w1 w'=>Q0n w' W.heap.size 4 .bool (v 10) (xs ++ [q]) /\ w1.grownBy w' (Value.slice Ao xs.length co).ownBlock) v w1 wl:=hT;intro bb hbb;subst hbb;intro K hK;go_simp;exact hK _ _ ⟨rfl,hT⟩
    case post =>
     intro v w1 hx;(iterate 9 intro (zq:v _=_));intro (q9:(fun v w'=>Q3q w' (v 9) (.bool q)) v w1);intro w2 hE;replace hE:(fun v w1 w'=>v 11=v 10 /\ Q0n w' W.heap.size 4 .bool (v 10) (xs ++ [q]) /\ w1.grownBy w' (Value.slice Ao xs.length co).ownBlock) v w1 w2:=hE;simp only [Flow.acts,Act.put];go_simp;obtain ⟨_,Oq,Pq⟩:=hE;have Zq:=rq.out.trans (Vq.trans hx);have kx:Ext W w2:=Below.grown Zq Pq Zq.size (fun b hb=>by
      have h1:=lq.out;obtain ⟨_,h2⟩:=h1
      rcases h2 with ⟨h2,_⟩ | ⟨g,c,cur,h2,Qx,_⟩
      . rw [h2] at hb; cases hb
      . rw [h2] at hb; cases hb; exact Qx)
     have ij:=Lib.hid kx;have K5:=Lib.hid Oq;clear hx Vq kx Oq Pq Zq q9;(repeat clear zq);go_wp2;go_roundw
     case rel=>exact ⟨k + 1,by omega,by go_num,by rw [Gj.out]; exact K5.out,ij.out⟩
     case measure=>simp [intOf]; omega
  . have Cj:k=lc.length:=by omega
    subst Cj;have lq:=Lib.hid Yq;have rq:=Lib.hid Dq;clear Yq Dq;go_wp2;go_ret;exact ⟨_,rfl,lq.out.weaken (by omega),Sq.out.trans rq.out⟩
def Q3d (s:Q0b) (p:List Rul):List (List Bool):=s.members.map fun m=>Q0l p m.classes
theorem Q7j {s:Q0b} (p:List Rul) {k:Nat} (hk:k < s.members.length):(Q3d s p).getD k []=Q0l p (Q0c s.members k):=by
 unfold Q3d Q0c;simp [hk]
theorem Q4c (s:Q0b) (p:List Rul):(Q3d s p).length=s.members.length:=by simp [Q3d]
theorem Y8z {s:Q0b} (p:List Rul) {k:Nat} (hk:k < s.members.length):(Q3d s p).take (k + 1)=(Q3d s p).take k ++ [Q0l p (Q0c s.members k)]:=by
 rw [List.take_succ_eq_append_getElem (by rw [Q4c]; exact hk)]
 unfold Q3d Q0c;simp [hk]
theorem Tryz.Z9k:(prog.info? 82).map (fun i=>(i.zero,i.size,i.bytes))=some (some (.slice none 0 0),1,24):=by kernel_rfl
theorem Y3d (w:World) (v:Value) (s:Q0b) (p:List Rul) (B b:Nat) (hv:X0m w v s.members) (hS:Q0w s) (hn:(p.map Rul.classes).Nodup) (hd:∀ k,k < p.length -> Digits (Q0k p k))
    (hB:w.cell? ⟨B,0,none⟩=some (.map (some b))) (hM:Q6u w b (Q8f p p.length)) :
    Calls prog 167 #[v,.func (.func 168) #[] #[.pointer (some ⟨B,0,none⟩)]] w fun e w'=>∃ x vs,e=.returned x /\ Q0n w' w.heap.size 82 idV x vs /\ X1v w' 4 .bool vs (Q3d s p) /\ Ext w w':=by
 obtain ⟨i0,hi,fq,mq,iq⟩:=info_parts Z9k;have h8:=hS.some;have h6:=hS.tides;have HS:=Lib.hid hS;have HV:=Lib.hid hv;obtain ⟨V,Bl,rfl,-,-,-⟩:=hv.opened;have Yz:Hid (∀ (W:World) (u:Value) (k:Nat),Ext w W -> k < s.members.length -> X3u W u (Q2a s k) -> Calls prog 168 #[u,.pointer (some ⟨B,0,none⟩)] W fun e w'=>∃ x,e=.returned x /\ Q0n w' W.heap.size 4 .bool x (Q0l p (Q0c s.members k)) /\ Ext W w') :=
  Lib.hid (fun W u k hW hk hu=>Y2h W u (Q2a s k) p B b hu hn hd (hS.digits k hk) (by have:=(hS.shaped k hk).1; show (Q0c s.members k).length <= 8; omega) (hW.cell hB) (hM.ext hW))
 clear hv hn hd hB hM hS;go_enter func167,ntmps167;go_wp2
 go_loopw [5,10] (fun o i wr=>∃ (k:Nat) (vs:List Value),k <= s.members.length /\ i=.int .i64 k /\ Q0n wr w.heap.size 82 idV o vs /\ X1v wr 4 .bool vs ((Q3d s p).take k) /\ Ext w wr) (fun _ i _=>s.members.length - (intOf i).toNat)
 case atStart=>exact ⟨0,[],Nat.zero_le _,rfl,Q0n.nil _ _ _ _,X1v.nil _ _ _,Ext.refl _⟩
 case round =>
  obtain ⟨k,vs,hk,rfl,Yq,Dy,Dq⟩:=hrel;have Zy:vs.length=k:=by have:=Dy.1; rw [List.length_take,Q4c] at this; omega
  have rq:=Lib.hid Dq
  by_cases Tq:k < s.members.length
  . have H3:=HV.out.ext Dq
    obtain ⟨_,_,zl,_,_,hc⟩:=H3.opened;cases zl;obtain ⟨bm,off,x,y,z,rfl,Wv,e0,e1,e2,e3,e4,hx,hy,hz,Aj⟩:=hc k Tq;have iz:=Lib.hid hx;have Ox:=Lib.hid hy;have Uy:=Lib.hid hz;obtain ⟨X,Rq,rfl,-,-,-⟩:=hx.opened;obtain ⟨Y,Jq,rfl,-,-,-⟩:=hy.opened;obtain ⟨Z,Bq,rfl,-,-,-⟩:=hz.opened;have Gj:=Lib.hid (Y8z p Tq);have Ek:=Lib.hid (fun W u hW hu=>Yz.out W u k hW Tq hu);have V0:Hid (∀ W,Ext wr W -> X3u W (.agg #[.string (Q1t s.members k),.int .i64 (Q0o s.members k),.slice X (Q0c s.members k).length Rq,.slice Y (Q0z s.members k).length Jq,.slice Z (Q1g s.members k).length Bq]) (Q2a s k)) :=
     Lib.hid (fun W hW=>⟨_,_,_,rfl,iz.out.ext hW,Ox.out.ext hW,Uy.out.ext hW⟩)
    have U0:Hid ((Q0l p (Q0c s.members k)).length <= 4096):=Lib.hid (by rw [Q3i,(HS.out.shaped k Tq).1]; omega)
    obtain ⟨nm,vj⟩:∃ x,Q1t s.members k=x:=⟨_,rfl⟩;obtain ⟨wt,Vj⟩:∃ x,Q0o s.members k=x:=⟨_,rfl⟩;obtain ⟨lc,mj⟩:∃ x,Q0c s.members k=x:=⟨_,rfl⟩;obtain ⟨lo,Lx⟩:∃ x,Q0z s.members k=x:=⟨_,rfl⟩;obtain ⟨li,yx⟩:∃ x,Q1g s.members k=x:=⟨_,rfl⟩;rw [vj] at e0 V0;rw [Vj] at e1 V0;rw [mj] at e2 V0 Gj Ek U0;rw [Lx] at e3 V0;rw [yx] at e4 V0;obtain ⟨cl,hcl⟩:∃ x,Q0l p lc=x:=⟨_,rfl⟩;rw [hcl] at Gj Ek U0;have Lj:(k:Int) < s.members.length:=by omega
    have yq:=Ext.box wr (.cells #[.string nm,.int .i64 wt,.slice X lc.length Rq,.slice Y lo.length Jq,.slice Z li.length Bq] 69);have K3:=Blk.made wr 69 #[.string nm,.int .i64 wt,.slice X lc.length Rq,.slice Y lo.length Jq,.slice Z li.length Bq];have d0:=(K3).cell 0;have d1:=(K3).cell 1;have d2:=(K3).cell 2;have d3:=(K3).cell 3;have d4:=(K3).cell 4;simp only [Go.Tw.gA,Go.Tw.gB,Go.Tw.gC] at d0 d1 d2 d3 d4;have zj:=Lib.hid yq;have HO:=Lib.hid Yq;have qZ:=Lib.hid Dy;have Mv:vs.length <= 4096:=by omega
    clear hc H3 hx hy hz Aj vj Vj mj Lx yx hcl Wv yq K3 Yq Dy Dq
    go_light
    go_wp2_with (first | (refine (Ek.out _ _ (rq.out.trans zj.out) (V0.out _ zj.out)).mono ?_; rintro e w5 ⟨u,rfl,hu,Cq⟩; obtain ⟨bu,cu,rfl,-⟩:=hu.shape; have HU:=Lib.hid hu; have vq:=Lib.hid (zj.out.trans Cq); have Yq:=HO.out.below vq.out; have Kj:=rq.out.trans vq.out; clear hu Cq) | (at_builtin; refine wpList_append_own _ rfl _ _ 179 rfl (w.heap.size) 82 i0 (.slice none 0 0) 1 24 underlying179 hi fq mq iq rfl (by decide) _ _ _ rfl (World.ownsRow.alloc Yq _) ⟨w5.heap.size,0,none⟩ 1 1 [.slice bu cl.length cu] rfl rfl ?_ ?_ ?_ ?_ ?_ ?_; exact Q4d _ _ _; (focus (simp [Value.oneCell'])); (focus (unfold maxLen; omega)); (focus omega); (focus (have:=Kj.size; simp at this ⊢; omega)); intro v' w1 Oq Pq _))
    have hx':=Q2d Kj Yq (Nat.le_refl _) Pq;have pj:=Ext.box w5 (.cells #[.slice bu cl.length cu] 82);have J5:=((((qZ.out.ext vq.out).snoc HU.out).ext pj)).grown (Yq.below pj) (by decide) Pq
    have pG:=Lib.hid J5;clear J5;go_wp2;go_roundw
    case rel=>exact ⟨k + 1,vs ++ [.slice bu cl.length cu],by omega,by go_num,Q0n.snoc (x:=Value.slice bu cl.length cu) Oq,by rw [Gj.out]; exact pG.out,hx'⟩
    case measure=>simp [intOf]; omega
  . have Cj:k=s.members.length:=by omega
    have HF:Hid ((Q3d s p).take k=Q3d s p):=Lib.hid (List.take_of_length_le (by rw [Q4c]; omega))
    have HO:=Lib.hid Yq;have qZ:=Lib.hid Dy;clear Yq Dy Dq;go_wp2;go_ret;exact ⟨_,vs,rfl,HO.out,by rw [<- HF.out]; exact qZ.out,rq.out⟩
theorem J1q {P:Program} {K:Value -> World -> Prop} {o:Oper} {a:Act} {w w':World} {t:TypeId} (m k x:Operand) (ho:o.op=.mapUpdate t m k x) {mv kv xv:Value} (hm:a.eval m=mv) (hk:a.eval k=kv) (hx:a.eval x=xv)
    (hr:(Instr.mapUpdate t mv kv xv).run P w=.ok () w') (h:∀ v,K v w'):gives P K ((execOp a.eval o).run P w):=by
 unfold execOp;simp only [ho,hm,hk,hx,Sem.run_bind,Sem.run_pure,Result.andThen_ok,hr];exact h _
theorem Y1t {s:Q0b} (hS:Q0w s):∀ h ∈ s.hist,Digits h:=fun h hh=>by
 obtain ⟨t,ht,k,hk,rfl⟩:=(Q0b.Q4r _ _).1 hh;exact Q6e (hS.digits k hk) _
theorem Z2n {s:Q0b} (hS:Q0w s) {p:List Rul} (hp:Q0q s.hist p=0):(p.map Rul.classes).Nodup:=by
 rw [Q2p.1 hp]; exact Y7r (Q0b.Y5v hS.shaped)
theorem Z0h {s:Q0b} (hS:Q0w s) {p:List Rul} (hp:Q0q s.hist p=0):∀ k,k < p.length -> Digits (Q0k p k):=fun k hk=>by
 rw [Q7i hk];exact Y1t hS _ (by rw [<- Q2p.1 hp]; exact List.mem_map_of_mem (List.getElem_mem hk))
theorem Y1b {s:Q0b} (hS:Q0w s):∀ h ∈ s.hist,h.length <= 6:=fun h hh=>by
 obtain ⟨t,ht,k,hk,rfl⟩:=(Q0b.Q4r _ _).1 hh;have:=hS.tides.2;rw [List.length_take]; omega
theorem Z7l {s:Q0b} (hS:Q0w s) {p:List Rul} (hp:Q0q s.hist p=0):∀ k,k < p.length -> (Q0k p k).length <= 6:=fun k hk=>by
 rw [Q7i hk];exact Y1b hS _ (by rw [<- Q2p.1 hp]; exact List.mem_map_of_mem (List.getElem_mem hk))
theorem Q6o (w:World) (v u:Value) (s:Q0b) (p:List Rul) (hv:Q0g w v s) (hu:Q0m w u p) (hS:Q0w s) (hp:Q0q s.hist p=0) :
    Calls prog 109 #[v,u] w fun e w'=>∃ x,e=.returned x /\ Q3l w' x (Q3d s p) /\ Ext w w':=by
 have h8:=hS.some;have oG:=Lib.hid (fun i (hi:i < (Q3d s p).length)=>(show ((Q3d s p).getD i []).length <= 17592186043904 by
  rw [Q4c] at hi;rw [Q7j p hi,Q3i,(hS.shaped i hi).1];have:=hS.tides.2; omega))
 have CX:=Lib.hid (Z2n hS hp);have oe:=Lib.hid (Z0h hS hp);have Q9:=Lib.hid (Z7l hS hp);have HS:=Lib.hid hS;obtain ⟨a,b,rfl,h2⟩:=hv;obtain ⟨rv,rfl,hr⟩:=hu;obtain ⟨A,Uq,rfl,-,-,-⟩:=h2.ships.opened;obtain ⟨M,Wq,rfl,-,-,-⟩:=h2.members.opened;have Nj:=Lib.hid hr;obtain ⟨R,Gq,rfl,-,-,-⟩:=hr.opened;have H2:=Lib.hid h2;clear h2 hr hS hp;go_enter func109,ntmps109;go_upto_region 1 with fail;change Code.wp _ _ _ _ ((w.alloc (.cells #[.int .i64 s.limit,.slice A s.ships.length Uq,.slice M s.members.length Wq] 34)).alloc (.cells #[.slice R p.length Gq] 38));obtain ⟨W,Nq,k0,k1,Sq,eW⟩:=Q3p w 34 #[.int .i64 s.limit,.slice A s.ships.length Uq,.slice M s.members.length Wq] 38 #[.slice R p.length Gq];rw [Nq];clear Nq;have pZ:=@run_makeMap prog;have S7:=Ext.box W (.map #[] 0);have Fk:=Ext.box (W.alloc (.map #[] 0)) (.cells #[.map (some (w.heap.size + 1 + 1))] 245);have m0:=(Q6u.made W).ext Fk;rw [eW] at m0;have kb:=Blk.made (W.alloc (.map #[] 0)) 245 #[.map (some (w.heap.size + 1 + 1))];have es:(W.alloc (.map #[] 0)).heap.size=W.heap.size + 1:=by simp
 have es2:((W.alloc (.map #[] 0)).alloc (.cells #[.map (some (w.heap.size + 1 + 1))] 245)).heap.size=W.heap.size + 1 + 1:=by simp
 rw [es,eW] at kb;rw [eW] at es2;have KS:=k0.ext (S7.trans Fk);have KP:=k1.ext (S7.trans Fk);have n1:=KP.cell 0;simp only [Go.Tw.gA,Go.Tw.gB] at n1;go_wp2;obtain ⟨V,hV⟩:∃ V,(W.alloc (.map #[] 0)).alloc (.cells #[.map (some (w.heap.size + 1 + 1))] 245)=V:=⟨_,rfl⟩;have ne:Ext w V:=Sq.out.trans (by rw [<- hV]; exact S7.trans Fk)
 rw [hV] at m0 kb KS KP es2 ⊢;obtain ⟨b,hb⟩:∃ b,w.heap.size + 1 + 1=b:=⟨_,rfl⟩;rw [hb] at m0 kb es2 ⊢;have nz:w.heap.size < b:=by omega
 have nG:w.heap.size + 1 < b:=by omega
 obtain ⟨gs,bq⟩:∃ x,w.heap.size=x:=⟨_,rfl⟩;have Nz:=Lib.hid bq;rw [bq] at KS KP nz nG ⊢;have b7:=Lib.hid KS;have Kg:=Lib.hid ne;have nW:=Lib.hid m0;have mG:=Lib.hid kb;have ke:=Lib.hid es2;clear S7 Fk m0 kb es es2 KS KP n1 hV ne hb eW Sq k0 k1 bq pZ
 go_loopw [12] (fun i wr=>∃ k:Nat,k <= p.length /\ i=.int .i64 k /\ Q6u wr b (Q8f p k) /\ Blk wr (b + 1) 245 #[.map (some b)] /\ Below b V wr) (fun i _=>p.length - (intOf i).toNat)
 case atStart=>exact ⟨0,Nat.zero_le _,rfl,nW.out,mG.out,Below.refl _ _⟩
 case round =>
  obtain ⟨k,hk,rfl,a7,ez,rx⟩:=hrel;have qQ:=Lib.hid a7;have Kv:=Lib.hid ez;have lw:=Lib.hid rx
  by_cases Tq:k < p.length
  . obtain ⟨_,_,yl,_,_,hc⟩:=Nj.out.opened
    cases yl;obtain ⟨br,orr,xr,rfl,iy,lj,Yj,Zx⟩:=hc k Tq;have pQ:br < b:=by have:=Nz.out; omega
    have je:=(rx.cell (p:=⟨br,orr + k * 2,none⟩) pQ).trans (Kg.out.cell lj);have uw:=(rx.cell (p:=⟨br,orr + k * 2 + 1,none⟩) pQ).trans (Kg.out.cell Yj);obtain ⟨Xr,cxr,rfl,-,-,-⟩:=Zx.opened;have jy:Below w.heap.size w wr:=Below.trans Kg.out (rx.mono (by have:=Nz.out; omega))
    have P9:=Lib.hid (Zx.ext jy);have ie:=Lib.hid (oe.out k Tq);have sQ:Hid ((Q0k p k).length <= 4096):=Lib.hid (by have:=Q9.out k Tq; omega)
    have Gj:Hid (Q8f p (k + 1)=Z4r (Q7g (Q0k p k)) (.bool (Q3a p k)) (Q8f p k)):=Lib.hid rfl;obtain ⟨lc,mj⟩:∃ x,Q0k p k=x:=⟨_,rfl⟩;obtain ⟨cb,Rj⟩:∃ x,Q3a p k=x:=⟨_,rfl⟩;obtain ⟨L,hL⟩:∃ x,Q8f p k=x:=⟨_,rfl⟩;rw [mj] at je P9 ie sQ Gj;rw [Rj] at uw Gj;rw [hL] at qQ Gj;have Lj:(k:Int) < p.length:=by omega
    have hxb:=Ext.box wr (.cells #[.slice Xr lc.length cxr,.bool cb] 167);have kr:=Blk.made wr 167 #[.slice Xr lc.length cxr,.bool cb];have zj:=Lib.hid hxb;have lG:b + 1 < wr.heap.size:=ez.lt;clear hc lj Yj Zx jy mj Rj hL a7 ez rx iy pQ hxb
    go_light
    go_wp2;obtain ⟨W5,O9⟩:∃ X,wr.alloc (.cells #[.slice Xr lc.length cxr,.bool cb] 167)=X:=⟨_,rfl⟩;obtain ⟨g,hg⟩:∃ x,wr.heap.size=x:=⟨_,rfl⟩;rw [O9] at zj kr ⊢;rw [hg] at kr lG ⊢;have KR:=Lib.hid kr;have Vq:=(Ext.refl W5).drew;clear O9 kr je uw hg;refine Flow.Q4h [.w,.p,.w,.w,.p,.w,.last] [0,1,2,3,4,5,6] [[],[],[1],[1,2],[],[4],[0,1,2,3,4,5]] [6]
     [.c 0 (.map (some b)),.c 1 (.pointer (some ⟨g,0,none⟩)),.c 2 (.slice Xr lc.length cxr),.c 3 (.string (Q7g lc)),.c 4 (.pointer (some ⟨g,1,none⟩)),.c 5 (.bool cb),.none]
     [fun v w1 w'=>Q6u w' b (Z4r (Q7g lc) (.bool cb) L) /\ (∀ n,n <= b -> Below n w1 w') /\ w1.grownBy w' (some b)] (by kernel_rfl) rfl (by kernel_rfl) ⟨?g0,?g1,?g2,?g3,?g4,?g5,?g6,trivial⟩ ?post
    case g0=>
     intro v w1 hx;intro bb hbb;subst hbb;have n0:w1.cell? ⟨b + 1,0,none⟩=some (.map (some b)):=(Kv.out.ext (zj.out.trans (Vq.trans hx))).cell 0;intro K hK;go_simp;exact hK _ _ (Ext.refl _) rfl
    case g1 | g4=>
     intro v w1 hx;intro bb hbb;subst hbb;refine ⟨_,fun w=>?_,rfl⟩;go_simp
    case g2 | g5=>
     intro v w1 hx;(repeat intro (zq:v _=_));intro bb hbb;subst hbb;have n0:w1.cell? ⟨g,0,none⟩=some (.slice Xr lc.length cxr):=(KR.out.ext (Vq.trans hx)).cell 0;have n1:w1.cell? ⟨g,1,none⟩=some (.bool cb):=(KR.out.ext (Vq.trans hx)).cell 1;intro K hK;go_simp;exact hK _ _ (Ext.refl _) rfl
    case g3=>
     intro v w1 hx;(repeat intro (zq:v _=_));intro bb hbb;subst hbb;intro K hK;go_simp;refine Q0d (Y5r w1 _ lc (P9.out.ext (zj.out.trans (Vq.trans hx))) sQ.out ie.out) ?_;rintro e w2 ⟨rfl,Mq⟩;exact ⟨_,rfl,hK _ _ Mq rfl⟩
    case g6=>
     intro v w1 hx;(repeat intro (zq:v _=_));intro wl hT;obtain rfl:wl=w1:=hT;intro bb hbb;intro K hK;have o1:bb.eval (.tmp 16)=.map (some b):=by rw [hbb]; dsimp only; (try simp (discharger:=decide) only [eval_put_ne]); rw [Q0a (by exact (by decide:16 < 27))]; assumption
     have o2:bb.eval (.tmp 19)=.string (Q7g lc):=by rw [hbb]; dsimp only; (try simp (discharger:=decide) only [eval_put_ne]); rw [Q0a (by simp only [size_put]; exact (by decide:19 < 27))]; assumption
     have o3:bb.eval (.tmp 21)=.bool cb:=by rw [hbb]; dsimp only; (try simp (discharger:=decide) only [eval_put_ne]); rw [Q0a (by simp only [size_put]; exact (by decide:21 < 27))]; assumption
     obtain ⟨w2,Ez,L3,ux,Q2⟩:=Z3a (P:=prog) (qQ.out.ext (zj.out.trans (Vq.trans hx))) J6o K0a (Q7g lc) (.bool cb);exact J1q (.tmp 16) (.tmp 19) (.tmp 21) rfl o1 o2 o3 Ez (fun vv=>hK _ _ ⟨L3,ux,Q2⟩)
    case post =>
     intro v w1 hx;(iterate 6 intro (zq:v _=_));intro w2 hE;replace hE:(fun v w1 w'=>Q6u w' b (Z4r (Q7g lc) (.bool cb) L) /\ (∀ n,n <= b -> Below n w1 w') /\ w1.grownBy w' (some b)) v w1 w2:=hE;simp only [Flow.acts,Act.put];go_simp;obtain ⟨L3,ux,Q2⟩:=hE;have Zq:=zj.out.trans (Vq.trans hx);have Z8:=Kv.out.ext Zq;have oZ:Blk w2 (b + 1) 245 #[.map (some b)]:=by
      unfold Blk at Z8 ⊢;rw [Q2.block (b + 1) (Array.getElem?_eq_some_iff.1 Z8).1 (by intro e; injection e with e; omega)]
      exact Z8
     have nZ:Below b V w2:=Below.trans lw.out (Below.trans (Zq.mono (by have:=Kv.out.lt; omega)) (ux b (Nat.le_refl _)))
     have Uz:=Lib.hid L3;have E3:=Lib.hid oZ;have Zw:=Lib.hid nZ;clear hx Vq L3 ux Q2 Zq Z8 oZ nZ;(repeat clear zq);go_wp2;go_roundw
     case rel=>exact ⟨k + 1,by omega,by go_num,by rw [Gj.out]; exact Uz.out,E3.out,Zw.out⟩
     case measure=>simp [intOf]; omega
  . have Cj:k=p.length:=by omega
    subst Cj;have ks:=b7.out.below rx nz;have c2:=ks.cell 2;simp only [Go.Tw.gA,Go.Tw.gB,Go.Tw.gC] at c2;have jy:Ext w wr:=Below.trans Kg.out (rx.mono (by have:=Nz.out; omega))
    have BX:=Lib.hid (Y3d wr _ s p (b + 1) b (H2.out.members.ext jy) HS.out CX.out oe.out (ez.cell 0) a7);have kG:=Lib.hid jy;clear ks a7 ez rx jy;go_wp2_with (go_at_call 167; refine BX.out.mono ?_; rintro e w5 ⟨x,vs,rfl,Yj,Mq,Cq⟩; have aj:=Lib.hid Yj; have G5:=Lib.hid Mq; have vq:=Lib.hid Cq; clear Yj Mq Cq);go_ret;exact ⟨x,rfl,Q0n.K0s aj.out (G5.out.J9r oG.out) (by rw [Q4c]; omega),kG.out.trans vq.out⟩
theorem Tryz.Z8c (w:World):(isAgg 69).run prog w=.ok true w:=by kernel_rfl
theorem Tryz.Y3u (w:World):(sizeOf 69).run prog w=.ok 5 w:=by kernel_rfl
theorem X5u {s:Q0b} (hS:Q0w s) {k n:Nat} (hk:k < s.members.length) (hn:n <= s.ships.length):OkM (Q2a s k) n:=by
 obtain ⟨_,h2,h3⟩:=hS.shaped k hk;refine ⟨?_,?_,fun j hj=>?_⟩
 . show n <= (Q0z s.members k).length; omega
 . show n <= (Q1g s.members k).length; omega
 . have Sv:j < (Q1g s.members k).length:=hj
   have:=hS.inflow k hk (ix (Q1g s.members k) j) (by rw [Q5i Sv]; exact List.getElem_mem Sv)
   exact this
structure J4g (w:World) (M:Option Addr) (s:Q0b) (k:Nat) (b off Rq Jq Bq:Nat) (X Y Z:Option Addr):Prop where
 addr:M=some ⟨b,off,none⟩
 lt:b < w.heap.size
 e0:w.cell? ⟨b,off + k * 5,none⟩=some (.string (Q1t s.members k))
 e1:w.cell? ⟨b,off + k * 5 + 1,none⟩=some (.int .i64 (Q0o s.members k))
 e2:w.cell? ⟨b,off + k * 5 + 2,none⟩=some (.slice X (Q0c s.members k).length Rq)
 e3:w.cell? ⟨b,off + k * 5 + 3,none⟩=some (.slice Y (Q0z s.members k).length Jq)
 e4:w.cell? ⟨b,off + k * 5 + 4,none⟩=some (.slice Z (Q1g s.members k).length Bq)
 x:Q0e w (.slice X (Q0c s.members k).length Rq) (Q0c s.members k)
 y:Q0e w (.slice Y (Q0z s.members k).length Jq) (Q0z s.members k)
 z:Q0e w (.slice Z (Q1g s.members k).length Bq) (Q1g s.members k)
theorem Q3s {w:World} {M:Option Addr} {Qq:Nat} {s:Q0b} (h:X0m w (.slice M s.members.length Qq) s.members) {k:Nat} (hk:k < s.members.length) :
    ∃ b off Rq Jq Bq X Y Z,J4g w M s k b off Rq Jq Bq X Y Z:=by
 obtain ⟨_,_,he,_,_,hc⟩:=h.opened;cases he;obtain ⟨b,off,x,y,z,hA,hb,e0,e1,e2,e3,e4,hx,hy,hz,_⟩:=hc k hk;obtain ⟨X,Rq,rfl,-,-,-⟩:=hx.opened;obtain ⟨Y,Jq,rfl,-,-,-⟩:=hy.opened;obtain ⟨Z,Bq,rfl,-,-,-⟩:=hz.opened;exact ⟨b,off,Rq,Jq,Bq,X,Y,Z,hA,hb,e0,e1,e2,e3,e4,hx,hy,hz⟩
theorem J4g.mem {w W:World} {M:Option Addr} {s:Q0b} {k b off Rq Jq Bq:Nat} {X Y Z:Option Addr} (h:J4g w M s k b off Rq Jq Bq X Y Z) (hx:Ext w W) :
    X3u W (.agg #[.string (Q1t s.members k),.int .i64 (Q0o s.members k),.slice X (Q0c s.members k).length Rq,.slice Y (Q0z s.members k).length Jq,.slice Z (Q1g s.members k).length Bq]) (Q2a s k) :=
 ⟨_,_,_,rfl,h.x.ext hx,h.y.ext hx,h.z.ext hx⟩
theorem Z5q (w:World) (v u:Value) (s:Q0b) (p:List Rul) (hv:Q0g w v s) (hu:Q3l w u (Q3d s p)) (hS:Q0w s) :
    Calls prog 108 #[v,u] w fun e w'=>∃ x,e=.returned x /\ Q0e w' x (Q2k s p) /\ Ext w w':=by
 obtain ⟨i0,hi,fq,mq,iq⟩:=info_parts info3;have h8:=hS.some;have h6:=hS.tides;have HS:=Lib.hid hS;obtain ⟨a,b,rfl,h2⟩:=hv;obtain ⟨A,Uq,rfl,-,-,-⟩:=h2.ships.opened;obtain ⟨M,Wq,rfl,-,-,-⟩:=h2.members.opened;have H2:=Lib.hid h2;obtain ⟨U,Rg,rfl,-,-,rk⟩:=hu.opened;rw [Q4c] at rk ⊢;have dg:=Lib.hid rk;clear h2 hu rk hS;go_enter func108,ntmps108;go_wp2_with fail;change Code.wp _ _ _ _ (w.alloc (.cells #[.int .i64 s.limit,.slice A s.ships.length Uq,.slice M s.members.length Wq] 34));obtain ⟨W,Nq,k0,Sq,eW⟩:=Q1y w 34 #[.int .i64 s.limit,.slice A s.ships.length Uq,.slice M s.members.length Wq];rw [Nq];clear Nq;have K0:=Lib.hid k0;have c0_2:=k0.cell 2;simp only [Go.Tw.gA,Go.Tw.gB,Go.Tw.gC] at c0_2;obtain ⟨gs,bq⟩:∃ x,w.heap.size=x:=⟨_,rfl⟩;rw [bq] at K0 eW c0_2 ⊢;clear k0;go_wp2;clear c0_2
 go_loopw [5,11] (fun o i wr=>∃ (k:Nat),k <= s.members.length /\ i=.int .i64 k /\ Q0n wr W.heap.size 3 (.int .i64) o (Q5y s p k) /\ Ext W wr) (fun _ i _=>s.members.length - (intOf i).toNat)
 case atStart=>exact ⟨0,Nat.zero_le _,rfl,Q0n.nil _ _ _ _,Ext.refl _⟩
 case round =>
  obtain ⟨k,hk,rfl,Yq,Dq⟩:=hrel;have rq:=Lib.hid Dq;have lq:=Lib.hid Yq
  by_cases Tq:k < s.members.length
  . obtain ⟨bm,off,Rq,Jq,Bq,X,Y,Z,aq⟩:=Q3s (H2.out.members.ext (Sq.out.trans Dq)) Tq
    have jG:=Lib.hid aq;have hA:=aq.addr;subst hA;have e0:=aq.e0;have e1:=aq.e1;have e2:=aq.e2;have e3:=aq.e3;have e4:=aq.e4;have Uz:=Lib.hid (fun W' hW=>aq.mem (W:=W') hW);obtain ⟨bu,ou,xk,hU,-,Sk,qj⟩:=dg.out k Tq;subst hU;rw [Q7j p Tq] at qj;have Fq:(Q0l p (Q0c s.members k)).length=s.ships.length:=by rw [Q3i,(HS.out.shaped k Tq).1]
    have Y8:Hid ((Q0l p (Q0c s.members k)).length <= 9):=Lib.hid (by omega)
    have Og:=Lib.hid (X5u HS.out Tq (n:=(Q0l p (Q0c s.members k)).length) (by omega))
    have fj:=Y1s s p k;have yQ:J1d s p k=(Q2a s k).keeps s.limit (Q0l p (Q0c s.members k)):=rfl;obtain ⟨cl,hcl⟩:∃ x,Q0l p (Q0c s.members k)=x:=⟨_,rfl⟩;rw [hcl] at qj Y8 Og yQ;obtain ⟨q,hq⟩:∃ x,(Q2a s k).keeps s.limit cl=x:=⟨_,rfl⟩;rw [yQ,hq] at fj;have HQ:=Lib.hid hq;have Gj:=Lib.hid fj;obtain ⟨nm,vj⟩:∃ x,Q1t s.members k=x:=⟨_,rfl⟩;obtain ⟨wt,Vj⟩:∃ x,Q0o s.members k=x:=⟨_,rfl⟩;obtain ⟨lc,mj⟩:∃ x,(Q0c s.members k).length=x:=⟨_,rfl⟩;obtain ⟨lo,Lx⟩:∃ x,(Q0z s.members k).length=x:=⟨_,rfl⟩;obtain ⟨li,yx⟩:∃ x,(Q1g s.members k).length=x:=⟨_,rfl⟩;rw [vj] at e0 Uz;rw [Vj] at e1 Uz;rw [mj] at e2 Uz;rw [Lx] at e3 Uz;rw [yx] at e4 Uz;obtain ⟨Uk,W8,rfl,-,-,-⟩:=qj.opened;have m7:=Lib.hid Sk;have Ng:=Lib.hid qj;have Lj:(k:Int) < s.members.length:=by omega
    have yq:=Ext.box wr (.cells #[.string nm,.int .i64 wt,.slice X lc Rq,.slice Y lo Jq,.slice Z li Bq] 69);have K3:=Blk.made wr 69 #[.string nm,.int .i64 wt,.slice X lc Rq,.slice Y lo Jq,.slice Z li Bq];have zj:=Lib.hid yq;clear aq Fq yQ hcl hq fj vj Vj mj Lx yx yq Yq Dq Sk qj jG
    go_light
    go_wp2;obtain ⟨W5,O9⟩:∃ X',wr.alloc (.cells #[.string nm,.int .i64 wt,.slice X lc Rq,.slice Y lo Jq,.slice Z li Bq] 69)=X':=⟨_,rfl⟩;obtain ⟨g,hg⟩:∃ x,wr.heap.size=x:=⟨_,rfl⟩;rw [O9] at zj K3 ⊢;rw [hg] at K3 ⊢;have KR:=Lib.hid K3;have Vq:=(Ext.refl W5).drew;clear O9 K3 e0 e1 e2 e3 e4 hg;refine Flow.Q1h [.w,.p,.w,.p,.p,.p,.w,.w] [0,1,2,3,4,5,6,7] [[],[],[1],[],[],[3,4],[5],[0,2,6]]
     [.c 0 (.agg #[.string nm,.int .i64 wt,.slice X lc Rq,.slice Y lo Jq,.slice Z li Bq]),.c 1 (.pointer (some ⟨gs,0,none⟩)),.c 2 (.int .i64 s.limit),.c 3 (.slice (some ⟨bu,ou,none⟩) s.members.length Rg),.c 4 (.int .i64 (k:Int)),.c 5 (.pointer (some ⟨bu,ou + k,none⟩)),.c 6 (.slice Uk cl.length W8),.c 7 (.bool q)]
     (by kernel_rfl) rfl (by kernel_rfl) ⟨?g0,?g1,?g2,?g3,?g4,?g5,?g6,?g7,trivial⟩ ?post
    case g0=>
     intro v w1 hx;intro bb hbb;intro K hK;have o1:bb.eval (.tmp 7)=.pointer (some ⟨g,0,none⟩):=fze04
     exact Q0i (.tmp 7) _ rfl Z8c Y3u o1 (KR.out.ext (Vq.trans hx)) rfl (hK _ _ (Ext.refl _) rfl)
    case g1 | g3 | g4=>
     intro v w1 hx;intro bb hbb;subst hbb;refine ⟨_,fun w=>?_,rfl⟩;go_simp
    case g2 | g6=>
     intro v w1 hx;(repeat intro (zq:v _=_));intro bb hbb;subst hbb;have n0:w1.cell? ⟨gs,0,none⟩=some (.int .i64 s.limit):=(K0.out.ext (rq.out.trans (zj.out.trans (Vq.trans hx)))).cell 0;have n1:w1.cell? ⟨bu,ou + k,none⟩=some (.slice Uk cl.length W8):=(Sq.out.trans (rq.out.trans (zj.out.trans (Vq.trans hx)))).cell m7.out;intro K hK;go_simp;exact hK _ _ (Ext.refl _) rfl
    case g5=>
     intro v w1 hx;(repeat intro (zq:v _=_));intro bb hbb;subst hbb;refine ⟨_,fun w=>?_,rfl⟩;go_simp
    case g7=>
     intro v w1 hx;(repeat intro (zq:v _=_));intro bb hbb;subst hbb;intro K hK;go_simp;refine Q0d (X1l w1 _ _ (Q2a s k) s.limit cl (Uz.out w1 (zj.out.trans (Vq.trans hx))) (Ng.out.ext (Sq.out.trans (rq.out.trans (zj.out.trans (Vq.trans hx))))) Y8.out Og.out) ?_;rintro e w2 ⟨rfl,Mq⟩;rw [HQ.out];exact ⟨_,rfl,hK _ _ Mq rfl⟩
    case post =>
     intro v w1 hx;(iterate 8 intro (zq:v _=_));simp only [Flow.All,Flow.acts,Act.put];go_simp;have Zq:=rq.out.trans (zj.out.trans (Vq.trans hx));have Yq:=lq.out.below (zj.out.trans (Vq.trans hx));have aj:=Lib.hid Zq;clear hx Vq;(repeat clear zq);obtain ⟨w3,rfl⟩:∃ X,X=w1:=⟨_,rfl⟩;cases q with
     | true =>
       have qq:Hid (Q5y s p (k + 1)=Q5y s p k ++ [(k:Int)]):=Lib.hid (by rw [Gj.out,if_pos (by trivial)])
       have Mv:(Q5y s p k).length <= 4096:=by have:=X1d s p k; omega
       have Sx:=Lib.hid Yq;have Dj:=aj.out;clear Zq;go_wp2_with (at_builtin; refine wpList_append_own _ rfl _ _ 22 rfl (W.heap.size) 3 i0 (.int .i64 0) 1 8 underlying22 hi fq mq iq rfl (by decide) _ _ _ rfl (World.ownsRow.alloc Yq _) ⟨w3.heap.size,0,none⟩ 1 1 [.int .i64 (k:Int)] rfl rfl ?_ ?_ ?_ ?_ ?_ ?_; exact Q4d _ _ _; (focus (simp [Value.oneCell'])); (focus (unfold maxLen; omega)); (focus omega); (focus (have:=Dj.size; simp at this ⊢; omega)); intro v' w1 Oq Pq _)
       have hx':=Q2d Dj Sx.out (Nat.le_refl _) Pq;go_roundw
       case rel=>exact ⟨k + 1,by omega,by go_num,by rw [qq.out]; exact Q0n.snoc Oq,hx'⟩
       case measure=>simp [intOf]; omega
     | false =>
       have qq:Hid (Q5y s p (k + 1)=Q5y s p k):=Lib.hid (by rw [Gj.out]; simp)
       have Sx:=Lib.hid Yq;clear Yq Zq;go_wp2;go_roundw
       case rel=>exact ⟨k + 1,by omega,by go_num,by rw [qq.out]; exact Sx.out,aj.out⟩
       case measure=>simp [intOf]; omega
  . have Cj:k=s.members.length:=by omega
    subst Cj;go_wp2;go_ret;exact ⟨_,rfl,by rw [<- Y4o]; exact lq.out.ints (by have:=X1d s p s.members.length; omega),Sq.out.trans rq.out⟩
theorem Q7d (w:World) (v:Value) (l:List Bool) (hv:Q1f w v l) :
    Calls prog 129 #[v] w fun e w'=>e=.returned (.int .i64 (countB l)) /\ Ext w w':=by
 obtain ⟨A,Qq,rfl,hl,Kq,hc⟩:=hv.opened;clear hv;go_enter func129,ntmps129;go_wp2
 go_loopw [3,8] (fun n i wr=>∃ (k:Nat) (m:Int),k <= l.length /\ i=.int .i64 k /\ n=.int .i64 m /\ 0 <= m /\ m <= k /\ m + countB (l.drop k)=countB l /\ Ext w wr) (fun _ i _=>l.length - (intOf i).toNat)
 case atStart=>exact ⟨0,0,Nat.zero_le _,rfl,rfl,Int.le_refl _,Int.le_refl _,by simp,Ext.refl _⟩
 case round =>
  obtain ⟨k,m,hk,rfl,rfl,iG,N9,hr,hx⟩:=hrel;have HR:=Lib.hid hr; clear hr
  by_cases Tq:k < l.length
  . obtain ⟨b,off,rfl,hb,Xq⟩:=hc k Tq
    replace Xq:=hx.cell Xq;have HD:=Lib.hid (Y7g Tq);clear hc;cases hb:bx l k
    . rw [hb] at Xq
      have HB:=Lib.hid hb; clear hb;go_wp2;go_roundw
      case rel=>exact ⟨k + 1,m,by omega,by go_num,rfl,iG,by omega,by rw [<- HR.out,HD.out,X9c,HB.out]; simp,hx⟩
      case measure=>simp [intOf]; omega
    . rw [hb] at Xq
      have HB:=Lib.hid hb; clear hb;go_wp2;go_roundw
      case rel=>exact ⟨k + 1,m + 1,by omega,by go_num,by go_num,by omega,by omega,by rw [<- HR.out,HD.out,X9c,HB.out]; simp; omega,hx⟩
      case measure=>simp [intOf]; omega
  . clear hc
    go_wp2;go_ret;exact ⟨Q1c (by have:=HR.out; rw [List.drop_eq_nil_of_le (by omega)] at this; rw [<- this]; show m=m + 0; omega),hx⟩
def Q9l (w:World) (x:Value) (o:Option (List Bool)):Prop:=match o with
 | none=>x=.slice none 0 0
 | some b=>Q0n w 0 4 .bool x b
theorem Q9l.ext {w w':World} {x:Value} {o:Option (List Bool)} (h:Q9l w x o) (hx:Ext w w'):Q9l w' x o:=by
 cases o with
 | none=>exact h
 | some b=>exact Q0n.below h hx
theorem Q9l.turns {B:Nat} {w w':World} {x:Value} {o:Option (List Bool)} (h:Q9l w x o) (hx:Turns B w w'):Q9l w' x o:=by
 cases o with
 | none=>exact h
 | some b=>exact hx.own h
theorem X5w (w:World) (a:Addr) (n Qq:Nat):(binOp .eql 82 (.slice (some a) n Qq) (.slice none 0 0)).run prog w=.ok (.bool false) w:=by kernel_rfl
theorem X3q (w:World):(binOp .eql 82 (.slice none 0 0) (.slice none 0 0)).run prog w=.ok (.bool true) w:=by kernel_rfl
attribute [local go_sem ↓] X5w X3q
theorem Q7n (m:Mem) (lim:Int) (T:Nat):∀ n b,m.Q4y lim T n=some b -> b.length=T
 | 0,b,h=>by cases h
 | n + 1,b,h=>by
   unfold Mem.Q4y at h
   split at h
   . cases h; exact X1m n T
   . exact Q7n m lim T n b h
theorem Z8q {m:Mem} {lim:Int} {T n:Nat} (h:m.keeps lim (Q5l n T)=false):m.Q4y lim T (n + 1)=m.Q4y lim T n:=by
 show (if _ then _ else _)=_
 rw [if_neg (by rw [h]; simp)]
theorem Z4g {m:Mem} {lim:Int} {T n:Nat} (h:m.keeps lim (Q5l n T)=true) (h0:m.Q4y lim T n=none):m.Q4y lim T (n + 1)=some (Q5l n T):=by
 show (if _ then _ else _)=_
 rw [if_pos ⟨h,fun b hb=>by rw [h0] at hb; cases hb⟩]
theorem Y9q {m:Mem} {lim:Int} {T n:Nat} {b:List Bool} (h:m.keeps lim (Q5l n T)=true) (h0:m.Q4y lim T n=some b) (q:Bool) (hq:decide (countB (Q5l n T) < countB b)=q):m.Q4y lim T (n + 1)=some (if q then Q5l n T else b):=by
 show (if _ then _ else _)=_
 cases q with
 | true=>rw [if_pos ⟨h,fun b' hb=>by rw [h0] at hb; cases hb; exact of_decide_eq_true hq⟩]; rfl
 | false=>rw [if_neg (fun hn=>(of_decide_eq_false hq) (hn.2 b h0)),h0]; rfl
theorem Y3n (w:World) (v:Value) (m:Mem) (lim:Int) (T:Nat) (hv:X3u w v m) (hT:m.classes.length=T) (AX:T <= 8) (mW:0 < T) (hm:OkM m T) :
    Calls prog 128 #[v,.int .i64 lim] w fun e w'=>∃ x,e=.returned x /\ Q9l w' x (m.Q4y lim T (2 ^ T)) /\ Ext w w':=by
 have HV:=Lib.hid hv;obtain ⟨x,y,z,rfl,hx,hy,hz⟩:=hv;obtain ⟨X,Rq,rfl,-,-,-⟩:=hx.opened;obtain ⟨Y,Jq,rfl,-,-,-⟩:=hy.opened;obtain ⟨Z,Bq,rfl,-,-,-⟩:=hz.opened;have HM:=Lib.hid hm;obtain ⟨lo,Lx⟩:∃ x,m.outside.length=x:=⟨_,rfl⟩;obtain ⟨li,yx⟩:∃ x,m.inflow.length=x:=⟨_,rfl⟩;rw [hT,Lx,yx] at HV ⊢;clear hx hy hz hm hT Lx yx;refine (callsIn_wide (n:=9)).1 ?_;refine callsIn_of_wp_marks func128 rfl trivial ?_ rfl;simp only [ntmps128,List.size_toArray,List.length_cons,List.length_nil,Nat.reduceAdd,Nat.reduceSub,Array.replicate_succ,Array.replicate_zero,List.push_toArray,List.append_toArray,List.nil_append,List.cons_append]
 gi_wp2_with (refine ⟨trivial,?_⟩; gi_at_call 112; refine halted ?_)
 change CallsIn _ _ _ _ _ (((w.alloc (.cells #[.string m.name,.int .i64 m.weight,.slice X T Rq,.slice Y lo Jq,.slice Z li Bq] 69)).alloc (.cells #[.int .i64 lim] 3)).alloc (.cells #[.slice none 0 0] 82)) _;obtain ⟨W,Nq,k0,k1,k2,Sq,eW⟩:=Q9s w 69 #[.string m.name,.int .i64 m.weight,.slice X T Rq,.slice Y lo Jq,.slice Z li Bq] 3 #[.int .i64 lim] 82 #[.slice none 0 0];rw [Nq];clear Nq;refine (callsIn_wide.2 (Y6x W (T:Int))).mono ?_;rintro e w' ⟨rfl,T0,oQ,Vy⟩;rw [eW] at T0 oQ ⊢;replace k0:=k0.ext Vy;replace k1:=k1.ext Vy;replace k2:=k2.ext Vy;have HXW':=Lib.hid (Sq.out.trans Vy);obtain ⟨gm,xz⟩:∃ x,w.heap.size=x:=⟨_,rfl⟩;have N7:=Lib.hid xz;rw [xz] at k0 k1 k2 T0 oQ ⊢;have K0:=Lib.hid k0;have K1:=Lib.hid k1;clear k0 k1 Vy xz Sq eW
 gi_wp2
 refine X2w (n:=9) rfl (by omega) (gf:=170) (lb:=#[.pointer (some ⟨gm + 1 + 1 + 1,0,none⟩)]) rfl trivial (enters_of func170 (by kernel_rfl) rfl)
  (X5p _ (gm + 1 + 1 + 1) T w' AX T0) rfl (fun h1 h2=>Eq.trans h2 h1) (fun h=>h.same (by omega)) (fun h ho=>h.own ho)
  (fun k W=>∃ bv,Blk W (gm + 1 + 1) 82 #[bv] /\ Q9l W bv (m.Q4y lim T k) /\ Below (gm + 1 + 1) w' W)
  (fun k A B ⟨bv,h1,h2,h3⟩ hx=>⟨bv,h1.ext hx,h2.ext hx,Below.trans h3 (hx.mono (by have:=h1.lt; omega))⟩)
  (fun h ⟨bv,h1,h2,h3⟩=>⟨bv,h.blk h1,h2.turns h,Below.trans h3 (h.below (by omega))⟩)
  ⟨_,k2,rfl,Below.refl _ _⟩ ?frm ?assign ?body ?done
 case assign =>
  intro l x W K hK
  gi_wp2
  exact hK
 case done =>
  rintro D W hD ⟨bv,hb,iy,hB⟩ hK;have Xq:=hb.cell 0
  gi_wp2
  refine ⟨by simp,.inl ⟨_,_,rfl,run_takeDeferred hK,?_⟩⟩
  have Lw:Turns w'.heap.size W (W.putObj D (.deferred none)):=⟨D,_,_,hD,hK,rfl,rfl⟩;exact ⟨_,results_tmp rfl _ _ _,⟨bv,rfl,iy.turns Lw,Below.trans HXW'.out (Below.trans (hB.mono (by have:=N7.out; omega)) (Lw.below (by have:=HXW'.out.size; omega)))⟩⟩
 case body =>
  rintro l k v W hk ⟨bv,hb,iy,hB⟩ hv;have vl:(2:Nat) ^ T <= 2 ^ 8:=Nat.pow_le_pow_right (by omega) AX
  have pq:=hB.size;have zX:=Lib.hid (K0.out.below hB (by omega))
  have Yw:=Lib.hid (K1.out.below hB (by omega))
  have lk:=Lib.hid hb;have ul:=Lib.hid (HV.out.ext (Below.trans HXW'.out (hB.mono (by have:=N7.out; omega))))
  have lw:=Lib.hid hB;have jk:=X1m k T;have mw:=Z8q (m:=m) (lim:=lim) (T:=T) (n:=k);have Jg:=Z4g (m:=m) (lim:=lim) (T:=T) (n:=k);have Gv:=fun b=>Y9q (m:=m) (lim:=lim) (T:=T) (n:=k) (b:=b);have S0:=Q7n m lim T k;obtain ⟨cl,hcl⟩:∃ x,Q5l k T=x:=⟨_,rfl⟩;rw [hcl] at hv jk mw Jg Gv;have yX:=Lib.hid hv;obtain ⟨Av,cv,rfl,-⟩:=hv.shape;have nQ:=Lib.hid (fun (w1:World) (hx:Ext W w1)=>X1l w1 _ _ m lim cl (ul.out.ext hx) ((yX.out.bools (by omega)).ext hx) (by omega) (by rw [jk]; exact HM.out))
  have gG:=Lib.hid (fun (w1:World) (hx:Ext W w1)=>Q7d w1 _ cl ((yX.out.bools (by omega)).ext hx))
  have Ww:Hid (cl.length=T):=Lib.hid jk;obtain ⟨kp,Oj⟩:∃ x,m.keeps lim cl=x:=⟨_,rfl⟩;rw [Oj] at mw Jg Gv nQ;have Vq:=(Ext.refl W).drew;obtain ⟨st,yj⟩:∃ x,m.Q4y lim T k=x:=⟨_,rfl⟩;rw [yj] at iy mw Jg Gv S0;have ee:=Lib.hid iy;have uz:Hid (gm + 1 + 1 + 1 + 1 <= W.heap.size):=Lib.hid (by omega)
  clear hb hv hcl Oj yj pq vl jk;cases kp with
  | false =>
    have Pg:=Lib.hid (mw rfl);have az:=nQ;clear mw Jg Gv iy S0 hB
    gi_wp2
    refine Flow.X3z [.w,.w,.p,.w,.p,.w,.p,.p,.p,.w,.w,.w,.p,.p,.p] [0,1,2,3,4,5,6,7,8,9,10,11,12,13,14] [[],[],[],[0,1,2],[3],[4],[4,5],[4,6],[7],[7,8],[7],[7,9,10],[7,9,11],[4,7,12],[4,13]]
     [.c 0 (.agg #[.string m.name,.int .i64 m.weight,.slice X T Rq,.slice Y lo Jq,.slice Z li Bq]),.c 1 (.int .i64 lim),.c 2 (.slice Av cl.length cv),.c 3 (.bool false),.c 4 (.bool false),.c 5 (undef),.c 6 (undef),.c 7 (undef),.c 8 (undef),.c 9 (undef),.c 10 (undef),.c 11 (undef),.c 12 (undef),.c 13 (undef),.c 14 (.bool false)]
     (by kernel_rfl) (by kernel_rfl) rfl (by kernel_rfl) ⟨?g0,?g1,?g2,?g3,?g4,?g5,?g6,?g7,?g8,?g9,?g10,?g11,?g12,?g13,?g14,trivial⟩ ?post
    case g0=>
     intro v w1 hx;intro bb hbb;intro K hK;have o1:bb.eval (.tmp 2)=.pointer (some ⟨gm,0,none⟩):=fze04
     exact Q0i (.tmp 2) _ rfl Z8c Y3u o1 (zX.out.ext (Vq.trans hx)) rfl (hK _ _ (Ext.refl _) rfl)
    case g1=>
     intro v w1 hx;intro bb hbb;subst hbb;have n0:w1.cell? ⟨gm + 1,0,none⟩=some (.int .i64 lim):=(Yw.out.ext (Vq.trans hx)).cell 0;intro K hK;go_simp;exact hK _ _ (Ext.refl _) rfl
    case g2=>
     intro v w1 hx;intro bb hbb;subst hbb;refine ⟨_,fun w=>?_,rfl⟩;go_simp
    case g3=>
     intro v w1 hx;(repeat intro (zq:v _=_));intro bb hbb;subst hbb;intro K hK;go_simp;refine Q0d (az.out w1 (Vq.trans hx)) ?_;rintro e w2 ⟨rfl,Mq⟩;exact ⟨_,rfl,hK _ _ Mq rfl⟩
    case g4 | g14=>
     intro v w1 hx;(repeat intro (zq:v _=_));intro bb hbb;subst hbb;refine ⟨_,fun w=>?_,rfl⟩;go_simp
    case g5 | g6 | g7 | g13=>
     intro v w1 hx;(repeat intro (zq:v _=_));intro bb hbb;exact Flow.Q1l (d:=16) rfl rfl fzb04 fzc04 rfl
    case g8 | g9 | g10 | g11 | g12=>
     intro v w1 hx;(repeat intro (zq:v _=_));intro bb hbb;exact Flow.Y6l (d:=19) rfl rfl fzb04 fzc04 rfl
    case post =>
     intro v w1 hx;(iterate 15 intro (zq:v _=_));simp only [Flow.All,Flow.acts,Act.put];go_simp;have HX:=Lib.hid (Vq.trans hx);clear hx Vq;(repeat clear zq)
     gi_wp2
     exact ⟨Y1f HX.out,Below.block HX.out _ (by have:=uz.out; omega),⟨bv,lk.out.ext HX.out,by rw [Pg.out]; exact ee.out.ext HX.out,Below.trans lw.out (HX.out.mono (by have:=uz.out; omega))⟩⟩
  | true =>
    have az:=nQ;cases st with
    | none =>
      have Pg:=Lib.hid (Jg rfl rfl);replace iy:bv=.slice none 0 0:=iy;subst iy;clear mw Jg Gv S0 hB
      gi_wp2
      refine Flow.X3z [.w,.w,.p,.w,.p,.w,.p,.p,.p,.w,.w,.w,.p,.p,.p] [0,1,2,3,4,5,6,7,8,9,10,11,12,13,14] [[],[],[],[0,1,2],[3],[4],[4,5],[4,6],[7],[7,8],[7],[7,9,10],[7,9,11],[4,7,12],[4,13]]
       [.c 0 (.agg #[.string m.name,.int .i64 m.weight,.slice X T Rq,.slice Y lo Jq,.slice Z li Bq]),.c 1 (.int .i64 lim),.c 2 (.slice Av cl.length cv),.c 3 (.bool true),.c 4 (.bool true),.c 5 (.slice none 0 0),.c 6 (.bool true),.c 7 (.bool true),.c 8 (undef),.c 9 (undef),.c 10 (undef),.c 11 (undef),.c 12 (undef),.c 13 (.bool true),.c 14 (.bool true)]
       (by kernel_rfl) (by kernel_rfl) rfl (by kernel_rfl) ⟨?g0,?g1,?g2,?g3,?g4,?g5,?g6,?g7,?g8,?g9,?g10,?g11,?g12,?g13,?g14,trivial⟩ ?post
      case g0=>
       intro v w1 hx;intro bb hbb;intro K hK;have o1:bb.eval (.tmp 2)=.pointer (some ⟨gm,0,none⟩):=fze04
       exact Q0i (.tmp 2) _ rfl Z8c Y3u o1 (zX.out.ext (Vq.trans hx)) rfl (hK _ _ (Ext.refl _) rfl)
      case g1=>
       intro v w1 hx;intro bb hbb;subst hbb;have n0:w1.cell? ⟨gm + 1,0,none⟩=some (.int .i64 lim):=(Yw.out.ext (Vq.trans hx)).cell 0;intro K hK;go_simp;exact hK _ _ (Ext.refl _) rfl
      case g2=>
       intro v w1 hx;intro bb hbb;subst hbb;refine ⟨_,fun w=>?_,rfl⟩;go_simp
      case g3=>
       intro v w1 hx;(repeat intro (zq:v _=_));intro bb hbb;subst hbb;intro K hK;go_simp;refine Q0d (az.out w1 (Vq.trans hx)) ?_;rintro e w2 ⟨rfl,Mq⟩;exact ⟨_,rfl,hK _ _ Mq rfl⟩
      case g4 | g14=>
       intro v w1 hx;(repeat intro (zq:v _=_));intro bb hbb;subst hbb;refine ⟨_,fun w=>?_,rfl⟩;go_simp
      case g5=>
       intro v w1 hx;(repeat intro (zq:v _=_));intro bb hbb;refine Flow.Q0j (d:=16) rfl rfl fzb04 fzc04 ?_
       subst hbb;have n0:w1.cell? ⟨gm + 1 + 1,0,none⟩=some (.slice none 0 0):=(lk.out.ext (Vq.trans hx)).cell 0;intro K hK;go_simp;exact hK _ _ (Ext.refl _) rfl
      case g6 | g7 | g13=>
       intro v w1 hx;(repeat intro (zq:v _=_));intro bb hbb;refine Flow.Q0j (d:=16) rfl rfl fzb04 fzc04 ?_
       subst hbb;refine ⟨_,fun w=>?_,rfl⟩;go_simp
      case g8 | g9 | g10 | g11 | g12=>
       intro v w1 hx;(repeat intro (zq:v _=_));intro bb hbb;exact Flow.Q1l (d:=19) rfl rfl fzb04 fzc04 rfl
      case post =>
       intro v w1 hx;(iterate 15 intro (zq:v _=_));simp only [Flow.All,Flow.acts,Act.put];go_simp;have HX:=Lib.hid (Vq.trans hx);have pj:=lk.out.ext HX.out;have g3:w1.cell? ⟨gm + 1 + 1,0,none⟩=some (.slice none 0 0):=pj.cell 0;have gf:=pj.frozen 0;have B3:=Lib.hid pj;clear hx Vq pj;(repeat clear zq)
       gi_wp2
       exact ⟨(Y1f HX.out).trans (KeepsOthers.setCell _ _ _),(Q3x _ _ _ _ (by show gm + 1 + 1 + 1 ≠ gm + 1 + 1; omega)).trans (Below.block HX.out _ (by have:=uz.out; omega)),
        ⟨.slice Av cl.length cv,B3.out.set 0 _,by rw [Pg.out]; exact Z6a (yX.out.below HX.out) B3.out (by decide),(Below.trans lw.out (HX.out.mono (by have:=uz.out; omega))).setCell (p:=⟨gm + 1 + 1,0,none⟩) (Nat.le_refl _) _⟩⟩
    | some b =>
      obtain ⟨q,hq⟩:∃ q,decide (countB cl < countB b)=q:=⟨_,rfl⟩;have Pg:=Lib.hid (Gv b rfl rfl q hq);have HQ:=Lib.hid hq;have jx:=S0 b rfl;obtain ⟨Ab,cb,rfl,-⟩:=(show Q0n W 0 4 .bool bv b from iy).shape
      have lW:=Lib.hid (fun (w1:World) (hx:Ext W w1)=>Q7d w1 _ b ((Q0n.bools (show Q0n W 0 4 .bool _ b from iy) (by omega)).ext hx))
      obtain ⟨ab,ly⟩:∃ a,Ab=some a:=by
       rcases (show Q0n W 0 4 .bool _ b from iy).2 with ⟨_,h0⟩ | ⟨g,Qq,cur,he,_⟩
       . omega
       . cases he; exact ⟨_,rfl⟩
      subst ly;clear mw Jg Gv S0 hB iy hq jx
      gi_wp2
      refine Flow.X3z [.w,.w,.p,.w,.p,.w,.p,.p,.p,.w,.w,.w,.p,.p,.p] [0,1,2,3,4,5,6,7,8,9,10,11,12,13,14] [[],[],[],[0,1,2],[3],[4],[4,5],[4,6],[7],[7,8],[7],[7,9,10],[7,9,11],[4,7,12],[4,13]]
       [.c 0 (.agg #[.string m.name,.int .i64 m.weight,.slice X T Rq,.slice Y lo Jq,.slice Z li Bq]),.c 1 (.int .i64 lim),.c 2 (.slice Av cl.length cv),.c 3 (.bool true),.c 4 (.bool true),.c 5 (.slice (some ab) b.length cb),.c 6 (.bool false),.c 7 (.bool false),.c 8 (.slice Av cl.length cv),.c 9 (.int .i64 (countB cl)),.c 10 (.slice (some ab) b.length cb),.c 11 (.int .i64 (countB b)),.c 12 (.bool (decide (countB cl < countB b))),.c 13 (.bool (decide (countB cl < countB b))),.c 14 (.bool (decide (countB cl < countB b)))]
       (by kernel_rfl) (by kernel_rfl) rfl (by kernel_rfl) ⟨?g0,?g1,?g2,?g3,?g4,?g5,?g6,?g7,?g8,?g9,?g10,?g11,?g12,?g13,?g14,trivial⟩ ?post
      case g0=>
       intro v w1 hx;intro bb hbb;intro K hK;have o1:bb.eval (.tmp 2)=.pointer (some ⟨gm,0,none⟩):=fze04
       exact Q0i (.tmp 2) _ rfl Z8c Y3u o1 (zX.out.ext (Vq.trans hx)) rfl (hK _ _ (Ext.refl _) rfl)
      case g1=>
       intro v w1 hx;intro bb hbb;subst hbb;have n0:w1.cell? ⟨gm + 1,0,none⟩=some (.int .i64 lim):=(Yw.out.ext (Vq.trans hx)).cell 0;intro K hK;go_simp;exact hK _ _ (Ext.refl _) rfl
      case g2=>
       intro v w1 hx;intro bb hbb;subst hbb;refine ⟨_,fun w=>?_,rfl⟩;go_simp
      case g3=>
       intro v w1 hx;(repeat intro (zq:v _=_));intro bb hbb;subst hbb;intro K hK;go_simp;refine Q0d (az.out w1 (Vq.trans hx)) ?_;rintro e w2 ⟨rfl,Mq⟩;exact ⟨_,rfl,hK _ _ Mq rfl⟩
      case g4 | g14=>
       intro v w1 hx;(repeat intro (zq:v _=_));intro bb hbb;subst hbb;refine ⟨_,fun w=>?_,rfl⟩;go_simp
      case g5=>
       intro v w1 hx;(repeat intro (zq:v _=_));intro bb hbb;refine Flow.Q0j (d:=16) rfl rfl fzb04 fzc04 ?_
       subst hbb;have n0:w1.cell? ⟨gm + 1 + 1,0,none⟩=some (.slice (some ab) b.length cb):=(lk.out.ext (Vq.trans hx)).cell 0;intro K hK;go_simp;exact hK _ _ (Ext.refl _) rfl
      case g6 | g7 | g13=>
       intro v w1 hx;(repeat intro (zq:v _=_));intro bb hbb;refine Flow.Q0j (d:=16) rfl rfl fzb04 fzc04 ?_
       subst hbb;refine ⟨_,fun w=>?_,rfl⟩;go_simp
      case g8 | g12=>
       intro v w1 hx;(repeat intro (zq:v _=_));intro bb hbb;refine Flow.Q0j (d:=19) rfl rfl fzb04 fzc04 ?_
       subst hbb;refine ⟨_,fun w=>?_,rfl⟩;go_simp
      case g9=>
       intro v w1 hx;(repeat intro (zq:v _=_));intro bb hbb;refine Flow.Q0j (d:=19) rfl rfl fzb04 fzc04 ?_
       subst hbb;intro K hK;go_simp;refine Q0d (gG.out w1 (Vq.trans hx)) ?_;rintro e w2 ⟨rfl,Mq⟩;exact ⟨_,rfl,hK _ _ Mq rfl⟩
      case g10=>
       intro v w1 hx;(repeat intro (zq:v _=_));intro bb hbb;refine Flow.Q0j (d:=19) rfl rfl fzb04 fzc04 ?_
       subst hbb;have n0:w1.cell? ⟨gm + 1 + 1,0,none⟩=some (.slice (some ab) b.length cb):=(lk.out.ext (Vq.trans hx)).cell 0;intro K hK;go_simp;exact hK _ _ (Ext.refl _) rfl
      case g11=>
       intro v w1 hx;(repeat intro (zq:v _=_));intro bb hbb;refine Flow.Q0j (d:=19) rfl rfl fzb04 fzc04 ?_
       subst hbb;intro K hK;go_simp;refine Q0d (lW.out w1 (Vq.trans hx)) ?_;rintro e w2 ⟨rfl,Mq⟩;exact ⟨_,rfl,hK _ _ Mq rfl⟩
      case post =>
       intro v w1 hx (q0:v 0=_) (q1:v 1=_) (q2:v 2=_) (q3:v 3=_) (q4:v 4=_) (q5:v 5=_) (q6:v 6=_) (q7:v 7=_) (q8:v 8=_) (q9:v 9=_) (q10:v 10=_) (q11:v 11=_) (q12:v 12=_) (q13:v 13=_) (q14:v 14=_);simp only [Flow.All,Flow.acts,Act.put];go_simp;rw [HQ.out];cases q with
       | false =>
         have HX:=Lib.hid (Vq.trans hx);clear hx Vq q0 q1 q2 q3 q4 q5 q6 q7 q8 q9 q10 q11 q12 q13 q14
         gi_wp2
         exact ⟨Y1f HX.out,Below.block HX.out _ (by have:=uz.out; omega),⟨(.slice (some ab) b.length cb),lk.out.ext HX.out,by rw [Pg.out]; exact ee.out.ext HX.out,Below.trans lw.out (HX.out.mono (by have:=uz.out; omega))⟩⟩
       | true =>
         have HX:=Lib.hid (Vq.trans hx);have pj:=lk.out.ext HX.out;have g3:w1.cell? ⟨gm + 1 + 1,0,none⟩=some (.slice (some ab) b.length cb):=pj.cell 0;have gf:=pj.frozen 0;have B3:=Lib.hid pj;clear hx Vq pj q0 q1 q2 q3 q4 q5 q6 q7 q8 q9 q10 q11 q12 q13 q14
         gi_wp2
         exact ⟨(Y1f HX.out).trans (KeepsOthers.setCell _ _ _),(Q3x _ _ _ _ (by show gm + 1 + 1 + 1 ≠ gm + 1 + 1; omega)).trans (Below.block HX.out _ (by have:=uz.out; omega)),
          ⟨.slice Av cl.length cv,B3.out.set 0 _,by rw [Pg.out]; exact Z6a (yX.out.below HX.out) B3.out (by decide),(Below.trans lw.out (HX.out.mono (by have:=uz.out; omega))).setCell (p:=⟨gm + 1 + 1,0,none⟩) (Nat.le_refl _) _⟩⟩
end Go.Proofs
namespace Go.Tw
open Go.RowKit Go.Flow
section
variable {α:Type} {enc:α -> List Value} {k:Nat}
def Q3c (cs:Array Value) (o:Nat):List Value -> Array Value
 | []=>cs
 | v :: vs=>Q3c (cs.setIfInBounds o v) (o + 1) vs
theorem X4m (o:Nat):∀ (vs:List Value) (cs:Array Value) ,(Q3c cs o vs).size=cs.size:=by
 intro vs
 induction vs generalizing o with
 | nil=>intro cs; rfl
 | cons v vs ih=>intro cs; rw [Q3c,ih]; simp
theorem Q5q:∀ (vs:List Value) (o:Nat) (cs:Array Value) (j:Nat),o + vs.length <= cs.size -> (Q3c cs o vs)[j]?=if o <= j /\ j < o + vs.length then vs[j - o]? else cs[j]?
 | [],o,cs,j,_=>by rw [Q3c,if_neg (by simp only [List.length_nil]; omega)]
 | v :: vs,o,cs,j,h=>by
   rw [List.length_cons] at h;rw [Q3c,Q5q vs (o + 1) _ j (by simp; omega)]
   by_cases h1:o + 1 <= j /\ j < o + 1 + vs.length
   . rw [if_pos h1,if_pos (by rw [List.length_cons]; omega),show j - o=(j - (o + 1)) + 1 from by omega]; rfl
   . rw [if_neg h1]
     by_cases h2:j=o
     . subst h2
       rw [if_pos (by rw [List.length_cons]; omega),Nat.sub_self]
       rw [Array.getElem?_setIfInBounds];rw [if_pos rfl,if_pos (by omega)]; rfl
     . rw [if_neg (by rw [List.length_cons]; omega),Array.getElem?_setIfInBounds,if_neg (fun e=>h2 e.symm)]
theorem Q6x {P:Program} {g off:Nat} {T:TypeId}:∀ (vs:List Value) (i:Nat) (w:World) (cs:Array Value),Blk w g T cs -> (∀ u ∈ vs,u.oneCell'=true) -> off + i + vs.length <= cs.size ->
    ∃ w',(storeCells ⟨g,off,none⟩ vs i).run P w=.ok () w' /\ Blk w' g T (Q3c cs (off + i) vs) /\ (∀ n,n <= g -> Below n w w') /\ ∀ k,k ≠ g -> w'.heap[k]?=w.heap[k]?
 | [],i,w,cs,h,_,hi=>⟨w,by simp [storeCells],h,fun _ _=>Below.refl _ _,fun _ _=>rfl⟩
 | v :: vs,i,w,cs,h,h1,hi=>by
   rw [List.length_cons] at hi;have Tq:off + i < cs.size:=by omega
   have h0:=h.cell (off + i);rw [Array.getElem?_eq_getElem Tq] at h0;have ea:(⟨g,off,none⟩:Addr).add i=⟨g,off + i,none⟩:=by rw [addr_add]
   obtain ⟨w',hr,hb,hl,ho⟩:=Q6x (P:=P) (off:=off) vs (i + 1) (w.setCell ⟨g,off + i,none⟩ v) (cs.setIfInBounds (off + i) v) (h.set _ v) (fun u hu=>h1 u (List.mem_cons_of_mem _ hu)) (by rw [Array.size_setIfInBounds]; omega)
   refine ⟨w',?_,?_,fun n hn=>Below.trans ((Below.refl n w).setCell (p:=⟨g,off + i,none⟩) hn v) (hl n hn),fun k hk=>(ho k hk).trans (Below.heap_setCell _ _ _ _ hk)⟩
   . rw [storeCells,ea]
     simp only [Sem.run_bind,run_store P w _ v _ (h1 v (List.mem_cons_self ..)),h0,h.frozen (off + i),Bool.false_eq_true,if_false,Result.andThen_ok];exact hr
   . rw [Q3c]; exact hb
theorem X7c {P:Program} {K:Value -> World -> Prop} {o:Oper} {a:Act} {w:World} (p x:Operand) (T:TypeId) (ho:o.op=.store T p x)
    {n:Nat} (hS:∀ w,(sizeOf T).run P w=.ok n w) {g off:Nat} (hp:a.eval p=.pointer (some ⟨g,off,none⟩)) {BT:TypeId} {cs vs:Array Value} (hx:a.eval x=.agg vs) (hb:Blk w g BT cs) (hn:off + n <= cs.size) (hv:vs.size=n) (h1:∀ u ∈ vs.toList,u.oneCell'=true)
    (h:∀ v w',Blk w' g BT (Q3c cs off vs.toList) -> (∀ n,n <= g -> Below n w w') -> (∀ k,k ≠ g -> w'.heap[k]?=w.heap[k]?) -> K v w'):gives P K ((execOp a.eval o).run P w):=by
 obtain ⟨w',hr,Mk,hl,S5⟩:=Q6x (P:=P) (off:=off) vs.toList 0 w cs hb h1 (by simp [hv]; omega)
 have hs:(storeVar T ⟨g,off,none⟩ (.agg vs)).run P w=.ok () w':=by
  have hc:(Value.agg vs).cells=vs:=rfl;unfold storeVar;simp only [Sem.run_bind,hS,Result.andThen_ok];rw [if_neg (by rw [hc]; simp [hv])]
  exact hr
 have zk:(execOp a.eval o).run P w=.ok .skip w':=by
  unfold execOp;simp only [ho,hp,hx,Instr.storeAt,Instr.sureAddr,Sem.run_bind,Sem.run_pure,Result.andThen_ok,hs]
 rw [zk];exact h _ _ Mk hl S5
theorem Y8t {P:Program} {w:World} (dT sT ty elem:TypeId) (hu:P.underlying dT=some (.slice elem)) {sz:Nat} (hs:∀ w,(sizeOf elem).run P w=.ok sz w) (n dcap scap:Nat) {g:Nat} {T:TypeId} {cur:Array Value} (hb:Blk w g T cur) (sp:Option Addr) (cs:List Value) (Fq:cs.length=n * sz)
    (Gy:∀ j v,cs[j]?=some v -> ∃ b off,sp=some ⟨b,off,none⟩ /\ w.cell? ⟨b,off + j,none⟩=some v) (Gz:cs.length <= cur.size) (h1:∀ v ∈ cs,v.oneCell'=true) :
    ∃ w',(Builtin.copy_ #[dT,sT] ty #[.slice (some ⟨g,0,none⟩) n dcap,.slice sp n scap]).run P w=.ok (goInt n) w' /\ Blk w' g T (Q3c cur 0 cs) /\ (∀ n,n <= g -> Below n w w') /\ ∀ k,k ≠ g -> w'.heap[k]?=w.heap[k]?:=by
 obtain ⟨w',hr,Mk,hl,S5⟩:=Q6x (P:=P) (off:=0) cs 0 w cur hb h1 (by simp; exact Gz)
 refine ⟨w',?_,Mk,hl,S5⟩;have sl:(Builtin.firstCells sz n (.slice sp n scap)).run P w=.ok cs.toArray w:=by
  cases sp with
  | none =>
    have:cs=[]:=by
     cases cs with
     | nil=>rfl
     | cons v vs=>obtain ⟨b,off,he,_⟩:=Gy 0 v rfl; cases he
    subst this;simp [Builtin.firstCells]
  | some ad =>
    have zw:=run_loadCells_list (P:=P) w ad cs (fun j v hv=>by
     obtain ⟨b,off,he,hc⟩:=Gy j v hv;cases he;rw [addr_add]; exact hc)
    rw [Fq] at zw
    simpa [Builtin.firstCells] using zw
 simp [Builtin.copy_,run_underlying hu,Builtin.lenOf,hs,sl,hr]
end
end Go.Tw
namespace Go.Tw
open Go.RowKit
abbrev PV:=Plan × Value
def Q3f (q:PV):List Value:=[.int .i64 q.1.weight,.int .i64 q.1.closings,.int .i64 q.1.delay,q.2]
theorem Q4t (q:PV):(Q3f q).length=4:=rfl
def Z9e (x:Plan) (c:Value):Value:=.agg #[.int .i64 x.weight,.int .i64 x.closings,.int .i64 x.delay,c]
end Go.Tw
namespace Go.Proofs
open Go.RowKit Go.Tw Go.Flow Tryz
attribute [local go_sem] Oper.semAt_some
theorem Tryz.J9t (w:World):(isAgg 159).run prog w=.ok true w:=by kernel_rfl
theorem Tryz.X9g (w:World):(sizeOf 159).run prog w=.ok 4 w:=by kernel_rfl
def Q0r (w:World) (ps:List PV):Prop:=∀ q ∈ ps,Q0n w 0 9 .string q.2 q.1.closed
theorem Q0r.nil (w:World):Q0r w []:=fun _ hq=>by simp at hq
theorem Q0r.ext {w w':World} {ps:List PV} (h:Q0r w ps) (hx:Ext w w'):Q0r w' ps:=fun q hq=>(h q hq).below hx
theorem Q0r.snoc {w:World} {ps:List PV} {q:PV} (h:Q0r w ps) (hq:Q0n w 0 9 .string q.2 q.1.closed):Q0r w (ps ++ [q]):=fun z hz=>by
 rcases List.mem_append.1 hz with hz | hz
 . exact h z hz
 . rw [List.mem_singleton.1 hz]; exact hq
theorem Q0r.sub {w:World} {ps qs:List PV} (h:Q0r w ps) (hs:∀ q ∈ qs,q ∈ ps):Q0r w qs:=fun q hq=>h q (hs q hq)
theorem Q0r.shape {w:World} {ps:List PV} (h:Q0r w ps) {q:PV} (hq:q ∈ ps):∃ A n c,q.2=.slice A n c:=by
 obtain ⟨A,c,he,_⟩:=(h q hq).shape;exact ⟨A,_,c,he⟩
theorem Z5z {w:World} {ps:List PV} (h:Q0r w ps) {q:PV} (hq:q ∈ ps):∀ u ∈ Q3f q,u.oneCell'=true:=by
 obtain ⟨A,n,c,he⟩:=h.shape hq;intro u hu;simp only [Q3f,List.mem_cons,List.not_mem_nil,or_false] at hu
 rcases hu with rfl | rfl | rfl | rfl
 . rfl
 . rfl
 . rfl
 . rw [he]; rfl
theorem OwnP.cases {w:World} {B:Nat} {v:Value} {ps:List PV} (h:Q1b w B 159 4 Q3f v ps) :
    (v=.slice none 0 0 /\ ps=[]) ∨ ∃ g Qq cur,v=.slice (some ⟨g,0,none⟩) ps.length Qq /\ B <= g /\ Blk w g 159 cur /\ ps.length <= Qq /\ Qq <= maxLen /\ cur.size=Qq * 4 /\ cur.toList.take (ps.length * 4)=ps.flatMap Q3f:=by
 obtain ⟨h1,h2⟩:=h
 rcases h2 with ⟨rfl,h0⟩ | ⟨g,Qq,cur,rfl,Qx,hg,Kq,P2,pq,ht⟩
 . exact .inl ⟨rfl,List.length_eq_zero_iff.1 h0⟩
 . exact .inr ⟨g,Qq,cur,rfl,Qx,hg,Kq,P2,pq,ht⟩
theorem X3l {w:World} {g:Nat} {T:TypeId} {cur:Array Value} {ps:List PV} (hb:Blk w g T cur) (ht:cur.toList.take (ps.length * 4)=ps.flatMap Q3f) {j i:Nat} (hj:j < ps.length) (hi:i < 4):w.cell? ⟨g,j * 4 + i,none⟩=(Q3f ps[j])[i]?:=by
 rw [hb.cell,<- flat_get Q4t ps j i hj hi,<- ht,List.getElem?_take,if_pos (by omega)]
 simp
theorem Y4p (w:World) (x y:Plan) (A B:Option Addr) (n m c d:Nat) :
    Calls prog 228 #[Z9e x (.slice A n c),Z9e y (.slice B m d)] w fun e w'=>e=.returned (.bool (x.Q5h y)) /\ Ext w w':=by
 obtain ⟨x1,x2,x3,x4⟩:=x;obtain ⟨y1,y2,y3,y4⟩:=y;unfold Z9e;dsimp only;have k0:=Blk.made w 159 #[.int .i64 x1,.int .i64 x2,.int .i64 x3,.slice A n c];have x0:=Ext.box w (.cells #[.int .i64 x1,.int .i64 x2,.int .i64 x3,.slice A n c] 159);have k1:=Blk.made (w.alloc (.cells #[.int .i64 x1,.int .i64 x2,.int .i64 x3,.slice A n c] 159)) 159 #[.int .i64 y1,.int .i64 y2,.int .i64 y3,.slice B m d];have xx:=Ext.box (w.alloc (.cells #[.int .i64 x1,.int .i64 x2,.int .i64 x3,.slice A n c] 159)) (.cells #[.int .i64 y1,.int .i64 y2,.int .i64 y3,.slice B m d] 159);have es:(w.alloc (.cells #[.int .i64 x1,.int .i64 x2,.int .i64 x3,.slice A n c] 159)).heap.size=w.heap.size + 1:=by simp
 rw [es] at k1;replace k0:=k0.ext xx;have c0:=(k0).cell 0;have c1:=(k0).cell 1;have c2:=(k0).cell 2;simp only [Go.Tw.gA,Go.Tw.gB,Go.Tw.gC] at c0 c1 c2;have d0:=(k1).cell 0;have d1:=(k1).cell 1;have d2:=(k1).cell 2;simp only [Go.Tw.gA,Go.Tw.gB,Go.Tw.gC] at d0 d1 d2;have HX:=Lib.hid (x0.trans xx);have HQ:Hid ((⟨x1,x2,x3,x4⟩:Plan).Q5h ⟨y1,y2,y3,y4⟩=(decide (y1 <= x1) && decide (x2 <= y2) && decide (x3 <= y3))):=Lib.hid rfl;clear k0 k1 x0 xx es;go_enter func228,ntmps228
 by_cases h1:y1 <= x1
 . by_cases h2:x2 <= y2
   . by_cases h3:x3 <= y3
     . have HR:Hid ((⟨x1,x2,x3,x4⟩:Plan).Q5h ⟨y1,y2,y3,y4⟩=true):=Lib.hid (by rw [HQ.out]; simp [h1,h2,h3])
       go_wp2;go_ret;exact ⟨Q0x HR.out.symm,HX.out⟩
     . have HR:Hid ((⟨x1,x2,x3,x4⟩:Plan).Q5h ⟨y1,y2,y3,y4⟩=false):=Lib.hid (by rw [HQ.out]; simp [h1,h2,h3])
       go_wp2;go_ret;exact ⟨Q0x HR.out.symm,HX.out⟩
   . have HR:Hid ((⟨x1,x2,x3,x4⟩:Plan).Q5h ⟨y1,y2,y3,y4⟩=false):=Lib.hid (by rw [HQ.out]; simp [h1,h2])
     go_wp2;go_ret;exact ⟨Q0x HR.out.symm,HX.out⟩
 . have HR:Hid ((⟨x1,x2,x3,x4⟩:Plan).Q5h ⟨y1,y2,y3,y4⟩=false):=Lib.hid (by rw [HQ.out]; simp [h1])
   go_wp2;go_ret;exact ⟨Q0x HR.out.symm,HX.out⟩
def Y2z (g:Nat) (pre post:Array Value) (w:World) (t:Plan -> Bool):Prop :=
 ∀ W (y:Plan) (A:Option Addr) (n c:Nat),Ext w W -> Calls prog g (pre ++ #[Z9e y (.slice A n c)] ++ post) W fun e W'=>e=.returned (.bool (t y)) /\ Ext W W'
theorem Y0b (w:World) (B:Nat) (v:Value) (ps:List PV) (g:Nat) (pre post:Array Value) (t:Plan -> Bool) (hv:Q1b w B 159 4 Q3f v ps) (hc:Q0r w ps) (hl:ps.length <= 100000)
    (eg:∀ args w,(callFunc g args).run prog w=.ok (.enter g args) w) (ht:Y2z g pre post w t) :
    Calls prog 247 #[v,.func (.func g) pre post] w fun e w'=>∃ r:Int,e=.returned (.int .i64 r) /\ ((r=-1 /\ ∀ q ∈ ps,t q.1=false) ∨ ∃ k:Nat,r=(k:Int) /\ ∃ q,ps[k]?=some q /\ t q.1=true /\ ∀ j q',j < k -> ps[j]?=some q' -> t q'.1=false) /\ Ext w w':=by
 have HC:=Lib.hid hc;have HT:=Lib.hid ht;obtain ⟨A,cv,Aj,xj⟩:∃ A cv,v=.slice A ps.length cv /\ Hid (∀ j (hj:j < ps.length),∃ gb,A=some ⟨gb,0,none⟩ /\ ∀ i,i < 4 -> w.cell? ⟨gb,j * 4 + i,none⟩=(Q3f ps[j])[i]?):=by
  rcases OwnP.cases hv with ⟨rfl,h0⟩ | ⟨gb,Qq,cur,rfl,_,hb,_,_,_,O2⟩
  . exact ⟨none,0,by rw [h0]; rfl,Lib.hid (fun j hj=>by rw [h0] at hj; simp at hj)⟩
  . exact ⟨_,Qq,rfl,Lib.hid (fun j hj=>⟨gb,rfl,fun i hi=>X3l hb O2 hj hi⟩)⟩
 subst Aj;obtain ⟨L,hL⟩:∃ L,ps.length=L:=⟨_,rfl⟩;have Ww:=Lib.hid hL;rw [hL] at hl ⊢;clear hv hc ht hL;go_enter func247,ntmps247;go_wp2
 go_loopw [8] (fun i wr=>∃ k:Nat,k <= L /\ i=.int .i64 k /\ (∀ j (hj:j < ps.length),j < k -> t ps[j].1=false) /\ Ext w wr) (fun i _=>L - (intOf i).toNat)
 case atStart=>exact ⟨0,Nat.zero_le _,rfl,fun j _ h=>absurd h (Nat.not_lt_zero _),Ext.refl _⟩
 case round =>
  obtain ⟨k,hk,rfl,mw,hx⟩:=hrel;have fG:=Lib.hid mw;have HX:=Lib.hid hx;clear mw
  by_cases Tq:k < L
  . have Oj:k < ps.length:=by rw [Ww.out]; exact Tq
    have Lj:(k:Int) < L:=by omega
    obtain ⟨gb,rfl,Xq⟩:=xj.out k Oj;have e0:=hx.cell (Xq 0 (by omega))
    have e1:=hx.cell (Xq 1 (by omega))
    have e2:=hx.cell (Xq 2 (by omega))
    have e3:=hx.cell (Xq 3 (by omega))
    obtain ⟨A4,n4,c4,qx⟩:=HC.out.shape (List.getElem_mem Oj);have tk:=Lib.hid (HT.out wr ps[k].1 A4 n4 c4 hx);have eG:Hid (∀ q,t ps[k].1=q -> t ps[k].1=q):=Lib.hid (fun _ h=>h);obtain ⟨q,hq⟩:∃ q,t ps[k].1=q:=⟨_,rfl⟩;have HQ:=Lib.hid hq;rw [hq] at tk;have tz:Hid (ps[k]?=some ps[k]):=Lib.hid (List.getElem?_eq_getElem Oj);obtain ⟨qk,rz⟩:∃ z,ps[k]=z:=⟨_,rfl⟩;rw [rz] at e0 e1 e2 e3 qx tk HQ tz;obtain ⟨⟨x1,x2,x3,x4⟩,xv⟩:=qk;replace qx:xv=.slice A4 n4 c4:=qx;subst qx;unfold Z9e at tk;dsimp only at tk;dsimp only at e0 e1 e2 e3;rw [Nat.add_zero] at e0;clear Oj Xq hq eG rz hx;cases q with
    | true =>
      go_wp2_with (refine tk.out.mono ?_; rintro e w9 ⟨rfl,kx⟩);go_ret;exact ⟨k,rfl,.inr ⟨k,rfl,_,tz.out,HQ.out,fun j q' hj F3=>by
       obtain ⟨h,rfl⟩:=List.getElem?_eq_some_iff.1 F3;exact fG.out j h hj⟩,HX.out.trans kx⟩
    | false =>
      go_wp2_with (refine tk.out.mono ?_; rintro e w9 ⟨rfl,kx⟩);go_roundw
      case rel=>exact ⟨k + 1,by omega,by go_num,fun j h hj=>by
       by_cases C3:j < k
       . exact fG.out j h C3
       . have:j=k:=by omega
         subst this;have h2:=tz.out;rw [List.getElem?_eq_getElem h] at h2;injection h2 with h2;rw [h2]; exact HQ.out,HX.out.trans kx⟩
      case measure=>simp [intOf]; omega
  . go_wp2
    go_ret;exact ⟨-1,rfl,.inl ⟨rfl,fun q hq=>by
     obtain ⟨j,hj,rfl⟩:=List.getElem_of_mem hq;exact fG.out j hj (by have:=Ww.out; omega)⟩,HX.out⟩
def a3 (a b c:Int):Array Value:=#[.int .i64 a,.int .i64 b,.int .i64 c]
theorem J7i (a b c:Int) (w:World):∀ i,i < 3 -> (part 3 (a3 a b c) (i * 1)).run prog w=.ok (.int .i64 (ix [a,b,c] i)) w
 | 0,_=>by kernel_rfl
 | 1,_=>by kernel_rfl
 | 2,_=>by kernel_rfl
theorem Y4c (a b c a' b' c':Int) (d:Nat) (w:World):∀ is:List Nat,(∀ i ∈ is,i < 3) -> (Op.eqItems (d + 1) 3 1 (a3 a b c) (a3 a' b' c') is).run prog w=.ok (is.all fun i=>ix [a,b,c] i == ix [a',b',c'] i) w
 | [],_=>rfl
 | i :: is,h=>by
   have hi:=h i (List.mem_cons_self ..);have ih:=Y4c a b c a' b' c' d w is (fun j hj=>h j (List.mem_cons_of_mem _ hj));rw [Op.eqItems];simp only [Sem.run_bind,J7i _ _ _ _ i hi,Result.andThen_ok,run_equalIn_int w d 3 .i64 .i64 _ _ underlying3];cases hq:(ix [a,b,c] i == ix [a',b',c'] i) with
   | true=>simp [ih,hq]
   | false=>simp [hq]
theorem Z6j (w:World) (a b c a' b' c':Int):(binOp .eql 195 (.agg (a3 a b c)) (.agg (a3 a' b' c'))).run prog w=.ok (.bool (a == a' && (b == b' && c == c'))) w:=by
 obtain ⟨i,hi⟩:∃ i,prog.info? 3=some i:=by
  have h:=info3;cases hh:prog.info? 3 with
  | none=>rw [hh] at h; cases h
  | some i=>exact ⟨i,rfl⟩
 have hu:prog.underlying 195=some (.array 3 3):=by kernel_rfl
 have hc:prog.cellsOf 3=1:=by kernel_rfl
 rw [run_eql_struct,show (10000:Nat)=9998 + 1 + 1 from rfl,run_equalIn_array w (9998 + 1) _ _ hu hi,hc,Y4c a b c a' b' c' 9998 w _ (fun i hi=>List.mem_range.1 hi)]
 have e:(List.range 3).all (fun i=>ix [a,b,c] i == ix [a',b',c'] i)=(a == a' && (b == b' && c == c')):=by
  rw [show List.range 3=[0,1,2] from rfl]
  simp [ix]
 rw [e];rfl
theorem Z8d (w:World) (a b c a' b' c':Int):(binOp .neq 195 (.agg (a3 a b c)) (.agg (a3 a' b' c'))).run prog w=.ok (.bool (!(a == a' && (b == b' && c == c')))) w:=by
 have h:=Z6j w a b c a' b' c';rw [run_eql_struct] at h;rw [run_neq_struct];generalize (Op.equalIn 10000 195 (.agg (a3 a b c)) (.agg (a3 a' b' c'))).run prog w=r at h ⊢;cases r with
 | ok x w1 =>
   simp only [Result.andThen_ok] at h ⊢;injection h with h1 h2;injection h1 with h1;rw [h1,h2]
 | _=>simp [Result.andThen] at h
theorem Tryz.Z9l:prog.eqGuardType prog.depth 195=false:=by kernel_rfl
theorem Y9z {w:World} {o:Oper} {a:Act} (x y:Operand) {T2:TypeId} (vw:o.op=.binOp .neq 195 x y T2) {b c d b' c' d':Int} (hx:a.eval x=.agg (a3 b c d)) (hy:a.eval y=.agg (a3 b' c' d')):(execOp a.eval o).run prog w=.ok (.value (.bool (!(b == b' && (c == c' && d == d'))))) w:=by
 unfold execOp;simp only [vw,hx,hy,Sem.run_bind,run_eqGuard_agg w .neq 195 x y _ _ Z9l,Result.andThen_ok,Z8d,Sem.run_pure]
theorem Tryz.K1x (w:World):(isAgg 195).run prog w=.ok true w:=by kernel_rfl
theorem Tryz.K0j (w:World):(sizeOf 195).run prog w=.ok 3 w:=by kernel_rfl
theorem Q0p (x:Int) (l:List Int):Q0h (x :: l)=if x=0 then Q0h l else x:=rfl
theorem X4v (e:Int):Q0u true e=e:=rfl
theorem X4z (e:Int):Q0u false e=0:=rfl
theorem J5e (s:Q0b) (p1 p2 p3 p4:Bool) (h1:((s.ships.length:Int) == 0)=p1) (h2:decide (6 < (s.ships.length:Int))=p2) (h3:((s.members.length:Int) == 0)=p3) (h4:decide (8 < (s.members.length:Int))=p4) {E:Int}
    (hE:Q0h [Q0f s.limit 0 1024,Q0u p1 12,Q0u p2 5,Q0y s.ships 1000,Q0u p3 12,Q0u p4 5]=E):s.err=if E=0 then Q3m s.Q3y s.members.length 0 else E:=by
 have d1:p1=true ↔ s.ships.length=0:=by rw [<- h1,beq_iff_eq]; omega
 have d2:p2=true ↔ 6 < s.ships.length:=by rw [<- h2,decide_eq_true_iff]; omega
 have d3:p3=true ↔ s.members.length=0:=by rw [<- h3,beq_iff_eq]; omega
 have d4:p4=true ↔ 8 < s.members.length:=by rw [<- h4,decide_eq_true_iff]; omega
 clear h1 h2 h3 h4
 by_cases c0:Q0f s.limit 0 1024=0
 . rw [Q0p,if_pos c0] at hE
   by_cases c1:s.ships.length=0
   . rw [Q0p,d1.2 c1,X4v] at hE
     rw [Z5x c0 c1,<- hE]; rfl
   . have e1:p1=false:=by cases p1 with | true=>exact absurd (d1.1 rfl) c1 | false=>rfl
     rw [Q0p,e1,X4z,if_pos rfl] at hE
     by_cases c2:6 < s.ships.length
     . rw [Q0p,d2.2 c2,X4v] at hE
       rw [Z5d c0 c1 c2,<- hE]; rfl
     . have e2:p2=false:=by cases p2 with | true=>exact absurd (d2.1 rfl) c2 | false=>rfl
       rw [Q0p,e2,X4z,if_pos rfl] at hE
       by_cases c3:Q0y s.ships 1000=0
       . rw [Q0p,if_pos c3] at hE
         rw [X9o c0 c1 c2 c3]
         by_cases c4:s.members.length=0
         . rw [Q0p,d3.2 c4,X4v] at hE
           rw [if_pos c4,<- hE]; rfl
         . have e3:p3=false:=by cases p3 with | true=>exact absurd (d3.1 rfl) c4 | false=>rfl
           rw [Q0p,e3,X4z,if_pos rfl] at hE;rw [if_neg c4]
           by_cases c5:8 < s.members.length
           . rw [Q0p,d4.2 c5,X4v] at hE
             rw [if_pos c5,<- hE]; rfl
           . have e4:p4=false:=by cases p4 with | true=>exact absurd (d4.1 rfl) c5 | false=>rfl
             rw [Q0p,e4,X4z,if_pos rfl] at hE;rw [if_neg c5,<- hE]; rfl
       . rw [Q0p,if_neg c3] at hE
         rw [Y8l c0 c1 c2 c3,<- hE,if_neg c3,X0u c3]
 . rw [Q0p,if_neg c0] at hE
   rw [<- hE,if_neg c0,Z0q c0,Q7l c0]
theorem Y7n (s:Q0b) (i:Nat) (sh:Bool) (Aj:(!(((Q0c s.members i).length:Int) == (s.ships.length:Int) && (((Q0z s.members i).length:Int) == (s.ships.length:Int) && ((Q1g s.members i).length:Int) == (s.ships.length:Int))))=sh) {A B:Int}
    (hA:Q0h [Q0u (!nameB (Q1t s.members i)) 8,Q0u (Q4i s.members i) 9,Q0f (Q0o s.members i) 1 1000,Q0u sh 2]=A) (hB:Q0h [Q0y (Q0c s.members i) 9,Q0y (Q0z s.members i) 1024,Q0y (Q1g s.members i) 1024]=B):s.Q3y i=if A=0 then B else A:=by
 have d:sh=false ↔ ((Q0c s.members i).length=s.ships.length /\ (Q0z s.members i).length=s.ships.length /\ (Q1g s.members i).length=s.ships.length):=by
  rw [<- Aj,Bool.not_eq_false',Bool.and_eq_true,Bool.and_eq_true,beq_iff_eq,beq_iff_eq,beq_iff_eq]; omega
 clear Aj;cases hn:nameB (Q1t s.members i) with
 | false =>
   rw [hn,Bool.not_false,X4v,Q0p] at hA;rw [X9x hn,<- hA]; rfl
 | true =>
   rw [hn,Bool.not_true,X4z,Q0p,if_pos rfl] at hA;cases ht:Q4i s.members i with
   | true =>
     rw [ht,X4v,Q0p] at hA;rw [X6b hn ht,<- hA]; rfl
   | false =>
     rw [ht,X4z,Q0p,if_pos rfl] at hA
     by_cases hw:Q0f (Q0o s.members i) 1 1000=0
     . rw [Q0p,if_pos hw] at hA
       cases sh with
       | true =>
         rw [X6a hn ht hw (fun h=>by have:=d.2 h; cases this),<- hA]; rfl
       | false =>
         rw [X9h hn ht hw (d.1 rfl),<- hA,hB]; rfl
     . rw [Q0p,if_neg hw] at hA
       rw [<- hA,if_neg hw,X3k hn ht hw,Q7l hw]
theorem Q1x (w:World) (v:Value) (s:Q0b) (hv:Q0g w v s) (hs:Q3v s) :
    Calls prog 46 #[v] w fun e w'=>e=.returned (.int .i64 s.err) /\ Ext w w':=by
 obtain ⟨a,b,rfl,h2⟩:=hv;obtain ⟨A,Uq,rfl,Ov,-,-⟩:=h2.ships.opened;obtain ⟨B,Wq,rfl,Nv,jz,-⟩:=h2.members.opened;have H2:=Lib.hid h2;have dG:=Lib.hid hs;have h7:=hs.ships;have h9:=hs.members;obtain ⟨p1,N2⟩:∃ x,((s.ships.length:Int) == 0)=x:=⟨_,rfl⟩;obtain ⟨p2,F5⟩:∃ x,decide (6 < (s.ships.length:Int))=x:=⟨_,rfl⟩;obtain ⟨p3,mZ⟩:∃ x,((s.members.length:Int) == 0)=x:=⟨_,rfl⟩;obtain ⟨p4,mQ⟩:∃ x,decide (8 < (s.members.length:Int))=x:=⟨_,rfl⟩;obtain ⟨E,hE⟩:∃ E,Q0h [Q0f s.limit 0 1024,Q0u p1 12,Q0u p2 5,Q0y s.ships 1000,Q0u p3 12,Q0u p4 5]=E:=⟨_,rfl⟩;have HE:Hid (∀ (w':World) (u:Value),Q0e w' u [Q0f s.limit 0 1024,Q0u p1 12,Q0u p2 5,Q0y s.ships 1000,Q0u p3 12,Q0u p4 5] -> Calls prog 96 #[u] w' fun e w''=>e=.returned (.int .i64 E) /\ w'=w''):=Lib.hid (by intro w' u h; rw [<- hE]; exact first_any _ _ _ h)
 have kW:=Lib.hid (J5e s p1 p2 p3 p4 N2 F5 mZ mQ hE);clear h2 hE hs;go_enter func46,ntmps46;go_wp2_with fail;change Code.wp _ _ _ _ (w.alloc (.cells #[.int .i64 s.limit,.slice A s.ships.length Uq,.slice B s.members.length Wq] 34));obtain ⟨W,Nq,k0,Sq,eW⟩:=Q1y w 34 #[.int .i64 s.limit,.slice A s.ships.length Uq,.slice B s.members.length Wq];rw [Nq];clear Nq;have K0:=Lib.hid k0;have c0_1:=k0.cell 1;simp only [Go.Tw.gA,Go.Tw.gB,Go.Tw.gC] at c0_1;have Vq:=(Ext.refl W).drew;clear k0;go_wp2;refine Flow.Q1h [.p,.w,.w,.p,.p,.w,.p,.p,.w,.p,.w,.w,.w,.p,.w,.p,.p,.w,.p,.w,.p,.p,.w,.w,.w,.p] [0,1,2,3,4,5,6,7,8,9,10,11,12,13,14,15,16,17,18,19,20,21,22,23,24,25] [[],[0],[1],[],[3],[2,4],[],[6],[5,7],[],[9],[8,10],[11],[],[13],[14],[15],[12,16],[],[18],[19],[20],[17,21],[2,5,8,12,17,22],[22,23],[0,1,2,3,4,5,6,7,8,9,10,11,12,13,14,15,16,17,18,19,20,21,22,23,24]]
  [.c 0 (.pointer (some ⟨w.heap.size,0,none⟩)),.c 1 (.int .i64 s.limit),.c 2 (.int .i64 (Q0f s.limit 0 1024)),.c 3 (.int .i64 (s.ships.length:Int)),.c 4 (.bool p1),.c 5 (.int .i64 (Q0u p1 12)),.c 6 (.int .i64 (s.ships.length:Int)),.c 7 (.bool p2),.c 8 (.int .i64 (Q0u p2 5)),.c 9 (.pointer (some ⟨w.heap.size,1,none⟩)),.c 10 (.slice A s.ships.length Uq),⟨fun v wz=>(fun v w'=>Q0e w' (v 11) (s.ships.map fun x=>Q0f x 0 1000)) v wz,by intro v a b hx h; exact Q0e.ext h hx⟩,.c 12 (.int .i64 (Q0y s.ships 1000)),.c 13 (.pointer (some ⟨w.heap.size,2,none⟩)),.c 14 (.slice B s.members.length Wq),.c 15 (.int .i64 ((s.members.length:Nat):Int)),.c 16 (.bool p3),.c 17 (.int .i64 (Q0u p3 12)),.c 18 (.pointer (some ⟨w.heap.size,2,none⟩)),.c 19 (.slice B s.members.length Wq),.c 20 (.int .i64 ((s.members.length:Nat):Int)),.c 21 (.bool p4),.c 22 (.int .i64 (Q0u p4 5)),⟨fun v wz=>Q0e wz (v 23) [Q0f s.limit 0 1024,Q0u p1 12,Q0u p2 5,Q0y s.ships 1000,Q0u p3 12,Q0u p4 5],fun _ _ _ hx h=>h.ext hx⟩,.c 24 (.int .i64 E),.c 25 (.int .i64 E)]
  (by kernel_rfl) rfl (by kernel_rfl) ⟨?g0,?g1,?g2,?g3,?g4,?g5,?g6,?g7,?g8,?g9,?g10,?g11,?g12,?g13,?g14,?g15,?g16,?g17,?g18,?g19,?g20,?g21,?g22,?g23,?g24,?g25,trivial⟩ ?post
 case g0 | g3 | g6 | g9 | g13 | g18=>
  intro v w1 hx;intro bb hbb;subst hbb;refine ⟨_,fun w=>?_,rfl⟩;go_simp
 case g1 | g10 | g14 | g19=>
  intro v w1 hx;(repeat intro (zq:v _=_));intro bb hbb;subst hbb;have n0:w1.cell? ⟨w.heap.size,0,none⟩=some (.int .i64 s.limit):=(K0.out.ext (Vq.trans hx)).cell 0;have n1:w1.cell? ⟨w.heap.size,1,none⟩=some (.slice A s.ships.length Uq):=(K0.out.ext (Vq.trans hx)).cell 1;have n2:w1.cell? ⟨w.heap.size,2,none⟩=some (.slice B s.members.length Wq):=(K0.out.ext (Vq.trans hx)).cell 2;intro K hK;go_simp;exact hK _ _ (Ext.refl _) rfl
 case g2=>
  intro v w1 hx;(repeat intro (zq:v _=_));intro bb hbb;subst hbb;intro K hK;go_simp;refine Q0d (X0y w1 s.limit) ?_;rintro e w2 ⟨rfl,rfl⟩;exact ⟨_,rfl,hK _ _ (Ext.refl _) rfl⟩
 case g4 | g7 | g15 | g16 | g20 | g21=>
  intro v w1 hx;(repeat intro (zq:v _=_));intro bb hbb;subst hbb;refine ⟨_,fun w=>?_,rfl⟩;go_simp
 case g5 | g8 | g17 | g22=>
  intro v w1 hx;(repeat intro (zq:v _=_));intro bb hbb;subst hbb;intro K hK;go_simp;refine Q0d (Q2s _ _ _) ?_;rintro e w2 ⟨rfl,rfl⟩;exact ⟨_,rfl,hK _ _ (Ext.refl _) rfl⟩
 case g11=>
  intro v w1 hx;(repeat intro (zq:v _=_));intro bb hbb;subst hbb;intro K hK;go_simp;refine Q0d (Y1g w1 _ s.ships (H2.out.ships.ext (Sq.out.trans (Vq.trans hx))) (by omega)) ?_
  rintro e w2 ⟨x,rfl,h1,Mq⟩;exact ⟨_,rfl,hK _ _ Mq h1⟩
 case g12=>
  intro v w1 hx (q11:(fun v w'=>Q0e w' (v 11) (s.ships.map fun x=>Q0f x 0 1000)) v w1);intro bb hbb;subst hbb;intro K hK;go_simp;refine Q0d (first_any w1 _ _ q11) ?_;rintro e w2 ⟨rfl,rfl⟩;exact ⟨_,rfl,hK _ _ (Ext.refl _) rfl⟩
 case g23=>
  intro v w1 hx;(repeat intro (zq:v _=_));intro bb hbb;subst hbb;intro K hK;go_simp;exact hK _ _ (Ext.box _ _) (Q1v (l:=[Q0f s.limit 0 1024,Q0u p1 12,Q0u p2 5,Q0y s.ships 1000,Q0u p3 12,Q0u p4 5]) (by simp))
 case g24=>
  intro v w1 hx (q22:v 22=_) (q23:Q0e w1 (v 23) [Q0f s.limit 0 1024,Q0u p1 12,Q0u p2 5,Q0y s.ships 1000,Q0u p3 12,Q0u p4 5]);intro bb hbb;subst hbb;intro K hK;go_simp;refine Q0d (HE.out _ _ q23) ?_;rintro e w2 ⟨rfl,rfl⟩;exact ⟨_,rfl,hK _ _ (Ext.refl _) rfl⟩
 case g25=>
  intro v w1 hx (q0:v 0=_) (q1:v 1=_) (q2:v 2=_) (q3:v 3=_) (q4:v 4=_) (q5:v 5=_) (q6:v 6=_) (q7:v 7=_) (q8:v 8=_) (q9:v 9=_) (q10:v 10=_) _ (q12:v 12=_) (q13:v 13=_) (q14:v 14=_) (q15:v 15=_) (q16:v 16=_) (q17:v 17=_) (q18:v 18=_) (q19:v 19=_) (q20:v 20=_) (q21:v 21=_) (q22:v 22=_) _ (q24:v 24=_);intro bb hbb;subst hbb;refine ⟨_,fun w=>?_,rfl⟩;go_simp
 case post =>
  intro v w1 hx (q0:v 0=_) (q1:v 1=_) (q2:v 2=_) (q3:v 3=_) (q4:v 4=_) (q5:v 5=_) (q6:v 6=_) (q7:v 7=_) (q8:v 8=_) (q9:v 9=_) (q10:v 10=_) (q11:(fun v w'=>Q0e w' (v 11) (s.ships.map fun x=>Q0f x 0 1000)) v w1) (q12:v 12=_) (q13:v 13=_) (q14:v 14=_) (q15:v 15=_) (q16:v 16=_) (q17:v 17=_) (q18:v 18=_) (q19:v 19=_);(iterate 3 intro (zq:v _=_));intro (q23:Q0e w1 (v 23) [Q0f s.limit 0 1024,Q0u p1 12,Q0u p2 5,Q0y s.ships 1000,Q0u p3 12,Q0u p4 5]);(iterate 1 intro (zq:v _=_));intro (q25:v 25=_);simp only [Flow.All,Flow.acts,Act.put];go_simp;have iz:=Lib.hid (Sq.out.trans (Vq.trans hx));have Rk:=Lib.hid (K0.out.ext (Vq.trans hx));clear hx Vq c0_1 HE N2 F5 mZ mQ
  by_cases fx:E=0
  . have hne:(E != 0)=false:=by simp [fx]
    have jw:Hid (s.err=Q3m s.Q3y s.members.length 0):=Lib.hid (by rw [kW.out,if_pos fx])
    have c0_2:=Rk.out.cell 2;simp only [Go.Tw.gA,Go.Tw.gB,Go.Tw.gC] at c0_2;clear fx kW;clear q0 q1 q2 q3 q4 q5 q6 q7 q8 q9 q10 q11 q12 q13 q14 q15 q16 q17 q18 q19 q23;(repeat clear zq);obtain ⟨V,rfl⟩:∃ X,X=w1:=⟨_,rfl⟩;go_wp2;clear c0_2
    go_loopw [45] (fun i wr=>∃ (k:Nat),k <= s.members.length /\ i=.int .i64 k /\ Q3m s.Q3y s.members.length k=s.err /\ Ext V wr) (fun i _=>s.members.length - (intOf i).toNat)
    case atStart=>exact ⟨0,Nat.zero_le _,rfl,jw.out.symm,Ext.refl _⟩
    case round =>
     obtain ⟨k,hk,rfl,hr,Dq⟩:=hrel;have HR:=Lib.hid hr;have rq:=Lib.hid Dq;have C4:=Lib.hid (Rk.out.ext Dq);clear hr jw
     by_cases Tq:k < s.members.length
     . have H3:=H2.out.ext (iz.out.trans Dq)
       obtain ⟨_,_,hB,_,_,hc⟩:=H3.members.opened;cases hB;have BX:Hid (∀ w',Ext wr w' -> ∀ j,j < k -> ∃ b off c1 c2 c3 c4,B=some ⟨b,off,none⟩ /\ w'.cell? ⟨b,off + j * 5,none⟩=some (.string (Q1t s.members j)) /\ w'.cell? ⟨b,off + j * 5 + 1,none⟩=some c1 /\ w'.cell? ⟨b,off + j * 5 + 2,none⟩=some c2 /\ w'.cell? ⟨b,off + j * 5 + 3,none⟩=some c3 /\ w'.cell? ⟨b,off + j * 5 + 4,none⟩=some c4):=Lib.hid (fun w' hx j hj=>by
        obtain ⟨b',off',x',y',z',hA,_,f0,f1,f2,f3,f4,_⟩:=hc j (by omega)
        exact ⟨b',off',_,_,_,_,hA,hx.cell f0,hx.cell f1,hx.cell f2,hx.cell f3,hx.cell f4⟩)
       obtain ⟨bm,off,x,y,z,rfl,Wv,e0,e1,e2,e3,e4,hx,hy,hz,Aj⟩:=hc k Tq;obtain ⟨X,Rq,rfl,yW,-,-⟩:=hx.opened;obtain ⟨Y,Jq,rfl,xW,-,-⟩:=hy.opened;obtain ⟨Z,Bq,rfl,vW,-,-⟩:=hz.opened;have M9:=dG.out.each k Tq;unfold X4t at M9;have Dk:=Q9o (f:=s.Q3y) Tq;rw [HR.out] at Dk;obtain ⟨sh,M2⟩:∃ x,(!(((Q0c s.members k).length:Int) == (s.ships.length:Int) && (((Q0z s.members k).length:Int) == (s.ships.length:Int) && ((Q1g s.members k).length:Int) == (s.ships.length:Int))))=x:=⟨_,rfl⟩;obtain ⟨EA,lQ⟩:∃ E,Q0h [Q0u (!nameB (Q1t s.members k)) 8,Q0u (Q4i s.members k) 9,Q0f (Q0o s.members k) 1 1000,Q0u sh 2]=E:=⟨_,rfl⟩;obtain ⟨EB,xX⟩:∃ E,Q0h [Q0y (Q0c s.members k) 9,Q0y (Q0z s.members k) 1024,Q0y (Q1g s.members k) 1024]=E:=⟨_,rfl⟩;have E5:=Y7n s k sh M2 lQ xX;have FQ:((List.range k).any fun j=>Q1t s.members j == Q1t s.members k)=Q4i s.members k:=rfl;obtain ⟨tw,lZ⟩:∃ x,Q4i s.members k=x:=⟨_,rfl⟩;rw [lZ] at FQ lQ;have Qg:=Lib.hid hx;have de:=Lib.hid hy;have r4:=Lib.hid hz;have W7:=Lib.hid Aj;obtain ⟨nm,vj⟩:∃ x,Q1t s.members k=x:=⟨_,rfl⟩;obtain ⟨wt,Vj⟩:∃ x,Q0o s.members k=x:=⟨_,rfl⟩;obtain ⟨lc,mj⟩:∃ x,Q0c s.members k=x:=⟨_,rfl⟩;obtain ⟨lo,Lx⟩:∃ x,Q0z s.members k=x:=⟨_,rfl⟩;obtain ⟨li,yx⟩:∃ x,Q1g s.members k=x:=⟨_,rfl⟩;rw [vj] at e0 W7 FQ lQ M9;rw [Vj] at e1 lQ;rw [mj] at e2 Qg M2 xX M9 yW;rw [Lx] at e3 de M2 xX M9 xW;rw [yx] at e4 r4 M2 xX M9 vW;obtain ⟨nb,hnb⟩:∃ x,nameB nm=x:=⟨_,rfl⟩;rw [hnb] at lQ;have G3:Hid (∀ w',Calls prog 124 #[.string nm] w' fun e w''=>e=.returned (.bool nb) /\ Ext w' w''):=Lib.hid (fun w'=>by rw [<- hnb]; exact Z8z w' nm W7.out)
       have HA:Hid (∀ (w':World) (u:Value),Q0e w' u [Q0u (!nb) 8,Q0u tw 9,Q0f wt 1 1000,Q0u sh 2] -> Calls prog 96 #[u] w' fun e w''=>e=.returned (.int .i64 EA) /\ w'=w''):=Lib.hid (by intro w' u h; rw [<- lQ]; exact first_any _ _ _ h)
       have HB:Hid (∀ (w':World) (u:Value),Q0e w' u [Q0y lc 9,Q0y lo 1024,Q0y li 1024] -> Calls prog 96 #[u] w' fun e w''=>e=.returned (.int .i64 EB) /\ w'=w''):=Lib.hid (by intro w' u h; rw [<- xX]; exact first_any _ _ _ h)
       have kZ:=Lib.hid M2;have MZ:Hid (∀ (w':World) (g Qq:Nat),Ext wr w' -> w'.cell? ⟨g,0,none⟩=some (.string nm) -> Calls prog 122 #[.slice (some ⟨bm,off,none⟩) k Qq,.func (.func 123) #[] #[.pointer (some ⟨g,0,none⟩)]] w' fun e w''=>e=.returned (.bool tw) /\ Ext w' w''):=Lib.hid (fun w' g Qq hx hB=>by
        have:=Z7s w' s.members k (some ⟨bm,off,none⟩) Qq g nm hB (by omega) (BX.out w' hx)
        rwa [FQ] at this)
       obtain ⟨cG,dp,jZ,Zr⟩:=M9;have Gg:=Lib.hid E5;have Cy:=Lib.hid Dk;have c0_2:=C4.out.cell 2;simp only [Go.Tw.gA,Go.Tw.gB,Go.Tw.gC] at c0_2;have Lj:(k:Int) < s.members.length:=by omega
       clear hc H3 BX hx hy hz Aj Dk E5 vj Vj mj Lx yx hnb FQ lZ lQ xX M2 yW xW vW Wv cG W7;have yq:=Ext.box wr (.cells #[.string nm,.int .i64 wt,.slice X lc.length Rq,.slice Y lo.length Jq,.slice Z li.length Bq] 69);have K3:=Blk.made wr 69 #[.string nm,.int .i64 wt,.slice X lc.length Rq,.slice Y lo.length Jq,.slice Z li.length Bq];replace c0_2:=yq.cell c0_2;have d0:=K3.cell 0;have d2:=K3.cell 2;have d3:=K3.cell 3;have d4:=K3.cell 4;simp only [Go.Tw.gA,Go.Tw.gB,Go.Tw.gC] at d0 d2 d3 d4
       go_light
       go_wp2_with (go_at_call 122; refine (MZ.out _ _ _ yq d0).mono ?_; rintro e w4 ⟨rfl,Uv⟩; replace d2:=Uv.cell d2; replace d3:=Uv.cell d3; replace d4:=Uv.cell d4);obtain ⟨W,Nq,k0,Sq,eW⟩:=Q1y w4 195 #[.int .i64 (lc.length:Int),.int .i64 (lo.length:Int),.int .i64 (li.length:Int)];rw [Nq];clear Nq;have KB:=Lib.hid ((K3.ext Uv).ext Sq.out);have KA:=Lib.hid k0;have aj:=Lib.hid ((iz.out.trans Dq).trans ((yq.trans Uv).trans Sq.out));have kG:=Lib.hid ((yq.trans Uv).trans Sq.out);have Kg:=Lib.hid (Dq.trans ((yq.trans Uv).trans Sq.out));have Vq:=(Ext.refl W).drew;clear k0 K3 d0 d2 d3 d4 c0_2 Uv Dq yq e0 e1 e2 e3 e4 MZ;refine Flow.Q1h [.p,.w,.w,.p,.w,.p,.w,.p,.w,.w,.w,.p,.p,.p,.p,.p,.w,.w,.w,.p] [0,1,2,3,4,5,6,7,8,9,10,11,12,13,14,15,16,17,18,19] [[],[0],[1],[2],[2,3],[],[4,5],[],[7],[6,8],[],[],[],[],[11,12,13],[10,14],[9,15],[4,6,9,16],[16,17],[0,1,2,3,4,5,6,7,8,9,10,11,12,13,14,15,16,17,18]]
        [.c 0 (.pointer (some ⟨wr.heap.size,0,none⟩)),.c 1 (.string nm),.c 2 (.bool nb),.c 3 (.bool (!nb)),.c 4 (.int .i64 (Q0u (!nb) 8)),.c 5 (.bool tw),.c 6 (.int .i64 (Q0u tw 9)),.c 7 (.pointer (some ⟨wr.heap.size,1,none⟩)),.c 8 (.int .i64 wt),.c 9 (.int .i64 (Q0f wt 1 1000)),.c 10 (.agg (a3 lc.length lo.length li.length)),.c 11 (.int .i64 (s.ships.length:Int)),.c 12 (.int .i64 (s.ships.length:Int)),.c 13 (.int .i64 (s.ships.length:Int)),.c 14 (.agg #[.int .i64 (s.ships.length:Int),.int .i64 (s.ships.length:Int),.int .i64 (s.ships.length:Int)]),.c 15 (.bool sh),.c 16 (.int .i64 (Q0u sh 2)),⟨fun v wz=>Q0e wz (v 17) [Q0u (!nb) 8,Q0u tw 9,Q0f wt 1 1000,Q0u sh 2],fun _ _ _ hx h=>h.ext hx⟩,.c 18 (.int .i64 EA),.c 19 (.int .i64 EA)]
        (by kernel_rfl) rfl (by kernel_rfl) ⟨?g0,?g1,?g2,?g3,?g4,?g5,?g6,?g7,?g8,?g9,?g10,?g11,?g12,?g13,?g14,?g15,?g16,?g17,?g18,?g19,trivial⟩ ?post
       case g0 | g5 | g7 | g11 | g12 | g13=>
        intro v w1 hx;intro bb hbb;subst hbb;refine ⟨_,fun w=>?_,rfl⟩;go_simp
       case g1 | g8=>
        intro v w1 hx;(repeat intro (zq:v _=_));intro bb hbb;subst hbb;have n0:w1.cell? ⟨wr.heap.size,0,none⟩=some (.string nm):=(KB.out.ext (Vq.trans hx)).cell 0;have n1:w1.cell? ⟨wr.heap.size,1,none⟩=some (.int .i64 wt):=(KB.out.ext (Vq.trans hx)).cell 1;intro K hK;go_simp;exact hK _ _ (Ext.refl _) rfl
       case g2=>
        intro v w1 hx;(repeat intro (zq:v _=_));intro bb hbb;subst hbb;intro K hK;go_simp;refine Q0d (G3.out w1) ?_;rintro e w2 ⟨rfl,Mq⟩;exact ⟨_,rfl,hK _ _ Mq rfl⟩
       case g3 | g14=>
        intro v w1 hx;(repeat intro (zq:v _=_));intro bb hbb;subst hbb;refine ⟨_,fun w=>?_,rfl⟩;go_simp
       case g4 | g6 | g16=>
        intro v w1 hx;(repeat intro (zq:v _=_));intro bb hbb;subst hbb;intro K hK;go_simp;refine Q0d (Q2s _ _ _) ?_;rintro e w2 ⟨rfl,rfl⟩;exact ⟨_,rfl,hK _ _ (Ext.refl _) rfl⟩
       case g9=>
        intro v w1 hx;(repeat intro (zq:v _=_));intro bb hbb;subst hbb;intro K hK;go_simp;refine Q0d (Q8r w1 wt 1 1000) ?_;rintro e w2 ⟨rfl,rfl⟩;exact ⟨_,rfl,hK _ _ (Ext.refl _) rfl⟩
       case g10=>
        intro v w1 hx;intro bb hbb;intro K hK;have o1:bb.eval (.tmp 8)=.pointer (some ⟨w4.heap.size,0,none⟩):=fze04
        exact Q0i (.tmp 8) _ rfl K1x K0j o1 (KA.out.ext (Vq.trans hx)) rfl (hK _ _ (Ext.refl _) rfl)
       case g15=>
        intro v w1 hx;(repeat intro (zq:v _=_));intro bb hbb;have o1:bb.eval (.tmp 76)=.agg (a3 lc.length lo.length li.length):=by rw [hbb]; dsimp only; (try simp (discharger:=decide) only [eval_put_ne]); rw [Q0a (by simp only [size_put]; exact (by decide:76 < 106))]; assumption
        have o2:bb.eval (.tmp 80)=.agg (a3 s.ships.length s.ships.length s.ships.length):=by rw [hbb]; dsimp only; (try simp (discharger:=decide) only [eval_put_ne]); rw [Q0a (by simp only [size_put]; exact (by decide:80 < 106))]; assumption
        exact ⟨.bool sh,fun w=>(Y9z (.tmp 76) (.tmp 80) rfl o1 o2).trans (by rw [kZ.out]),rfl⟩
       case g17=>
        intro v w1 hx;(repeat intro (zq:v _=_));intro bb hbb;subst hbb;intro K hK;go_simp;exact hK _ _ (Ext.box _ _) (Q1v (l:=[Q0u (!nb) 8,Q0u tw 9,Q0f wt 1 1000,Q0u sh 2]) (by simp))
       case g18=>
        intro v w1 hx (q16:v 16=_) (q17:Q0e w1 (v 17) [Q0u (!nb) 8,Q0u tw 9,Q0f wt 1 1000,Q0u sh 2]);intro bb hbb;subst hbb;intro K hK;go_simp;refine Q0d (HA.out _ _ q17) ?_;rintro e w2 ⟨rfl,rfl⟩;exact ⟨_,rfl,hK _ _ (Ext.refl _) rfl⟩
       case g19=>
        intro v w1 hx (q0:v 0=_) (q1:v 1=_) (q2:v 2=_) (q3:v 3=_) (q4:v 4=_) (q5:v 5=_) (q6:v 6=_) (q7:v 7=_) (q8:v 8=_) (q9:v 9=_) (q10:v 10=_) (q11:v 11=_) (q12:v 12=_) (q13:v 13=_) (q14:v 14=_) (q15:v 15=_) (q16:v 16=_) _ (q18:v 18=_);intro bb hbb;subst hbb;refine ⟨_,fun w=>?_,rfl⟩;go_simp
       case post =>
        intro v w1 hx (q0:v 0=_) (q1:v 1=_) (q2:v 2=_) (q3:v 3=_) (q4:v 4=_) (q5:v 5=_) (q6:v 6=_) (q7:v 7=_) (q8:v 8=_) (q9:v 9=_) (q10:v 10=_) (q11:v 11=_) (q12:v 12=_) (q13:v 13=_) (q14:v 14=_);(iterate 2 intro (zq:v _=_));intro (q17:Q0e w1 (v 17) [Q0u (!nb) 8,Q0u tw 9,Q0f wt 1 1000,Q0u sh 2]);(iterate 1 intro (zq:v _=_));intro (q19:v 19=_);simp only [Flow.All,Flow.acts,Act.put];go_simp;have Ox:=Lib.hid (Vq.trans hx);clear hx Vq q0 q1 q2 q3 q4 q5 q6 q7 q8 q9 q10 q11 q12 q13 q14 q17 HA G3 kZ KA;(repeat clear zq)
        by_cases ha:EA=0
        . have jW:(EA != 0)=false:=by simp [ha]
          have L2:Hid (s.Q3y k=EB):=Lib.hid (by rw [Gg.out,if_pos ha])
          have bG:=Lib.hid (KB.out.ext Ox.out);have ij:=Lib.hid (aj.out.trans Ox.out);have rl:=Lib.hid (Kg.out.trans Ox.out);have kQ:=Lib.hid (kG.out.trans Ox.out);have Vq:=(Ext.refl w1).drew;clear ha Gg KB aj Ox Kg;obtain ⟨U,rfl⟩:∃ X,X=w1:=⟨_,rfl⟩;go_wp2;refine Flow.Q1h [.p,.w,.w,.w,.p,.w,.w,.w,.p,.w,.w,.w,.w,.w,.p] [0,1,2,3,4,5,6,7,8,9,10,11,12,13,14] [[],[0],[1],[2],[],[4],[3,5],[6],[],[8],[7,9],[10],[3,7,11],[11,12],[0,1,2,3,4,5,6,7,8,9,10,11,12,13]]
           [.c 0 (.pointer (some ⟨wr.heap.size,2,none⟩)),.c 1 (.slice X lc.length Rq),⟨fun v wz=>(fun v w'=>Q0e w' (v 2) (lc.map fun x=>Q0f x 0 9)) v wz,by intro v a b hx h; exact Q0e.ext h hx⟩,.c 3 (.int .i64 (Q0y lc 9)),.c 4 (.pointer (some ⟨wr.heap.size,3,none⟩)),.c 5 (.slice Y lo.length Jq),⟨fun v wz=>(fun v w'=>Q0e w' (v 6) (lo.map fun x=>Q0f x 0 1024)) v wz,by intro v a b hx h; exact Q0e.ext h hx⟩,.c 7 (.int .i64 (Q0y lo 1024)),.c 8 (.pointer (some ⟨wr.heap.size,4,none⟩)),.c 9 (.slice Z li.length Bq),⟨fun v wz=>(fun v w'=>Q0e w' (v 10) (li.map fun x=>Q0f x 0 1024)) v wz,by intro v a b hx h; exact Q0e.ext h hx⟩,.c 11 (.int .i64 (Q0y li 1024)),⟨fun v wz=>Q0e wz (v 12) [Q0y lc 9,Q0y lo 1024,Q0y li 1024],fun _ _ _ hx h=>h.ext hx⟩,.c 13 (.int .i64 EB),.c 14 (.int .i64 EB)]
           (by kernel_rfl) rfl (by kernel_rfl) ⟨?g0,?g1,?g2,?g3,?g4,?g5,?g6,?g7,?g8,?g9,?g10,?g11,?g12,?g13,?g14,trivial⟩ ?post
          case g0 | g4 | g8=>
           intro v w1 hx;intro bb hbb;subst hbb;refine ⟨_,fun w=>?_,rfl⟩;go_simp
          case g1 | g5 | g9=>
           intro v w1 hx;(repeat intro (zq:v _=_));intro bb hbb;subst hbb;have n0:w1.cell? ⟨wr.heap.size,2,none⟩=some (.slice X lc.length Rq):=(bG.out.ext (Vq.trans hx)).cell 2;have n1:w1.cell? ⟨wr.heap.size,3,none⟩=some (.slice Y lo.length Jq):=(bG.out.ext (Vq.trans hx)).cell 3;have n2:w1.cell? ⟨wr.heap.size,4,none⟩=some (.slice Z li.length Bq):=(bG.out.ext (Vq.trans hx)).cell 4;intro K hK;go_simp;exact hK _ _ (Ext.refl _) rfl
          case g2=>
           intro v w1 hx;(repeat intro (zq:v _=_));intro bb hbb;subst hbb;intro K hK;go_simp;refine Q0d (X0r w1 _ lc (Qg.out.ext (kQ.out.trans (Vq.trans hx))) (by omega)) ?_
           rintro e w2 ⟨x,rfl,h1,Mq⟩;exact ⟨_,rfl,hK _ _ Mq h1⟩
          case g3=>
           intro v w1 hx (q2:(fun v w'=>Q0e w' (v 2) (lc.map fun x=>Q0f x 0 9)) v w1);intro bb hbb;subst hbb;intro K hK;go_simp;refine Q0d (first_any w1 _ _ q2) ?_;rintro e w2 ⟨rfl,rfl⟩;exact ⟨_,rfl,hK _ _ (Ext.refl _) rfl⟩
          case g6=>
           intro v w1 hx;(repeat intro (zq:v _=_));intro bb hbb;subst hbb;intro K hK;go_simp;refine Q0d (Q9t w1 _ lo (de.out.ext (kQ.out.trans (Vq.trans hx))) (by omega)) ?_
           rintro e w2 ⟨x,rfl,h1,Mq⟩;exact ⟨_,rfl,hK _ _ Mq h1⟩
          case g7=>
           intro v w1 hx (q6:(fun v w'=>Q0e w' (v 6) (lo.map fun x=>Q0f x 0 1024)) v w1);intro bb hbb;subst hbb;intro K hK;go_simp;refine Q0d (first_any w1 _ _ q6) ?_;rintro e w2 ⟨rfl,rfl⟩;exact ⟨_,rfl,hK _ _ (Ext.refl _) rfl⟩
          case g10=>
           intro v w1 hx;(repeat intro (zq:v _=_));intro bb hbb;subst hbb;intro K hK;go_simp;refine Q0d (Q9t w1 _ li (r4.out.ext (kQ.out.trans (Vq.trans hx))) (by omega)) ?_
           rintro e w2 ⟨x,rfl,h1,Mq⟩;exact ⟨_,rfl,hK _ _ Mq h1⟩
          case g11=>
           intro v w1 hx (q10:(fun v w'=>Q0e w' (v 10) (li.map fun x=>Q0f x 0 1024)) v w1);intro bb hbb;subst hbb;intro K hK;go_simp;refine Q0d (first_any w1 _ _ q10) ?_;rintro e w2 ⟨rfl,rfl⟩;exact ⟨_,rfl,hK _ _ (Ext.refl _) rfl⟩
          case g12=>
           intro v w1 hx;(repeat intro (zq:v _=_));intro bb hbb;subst hbb;intro K hK;go_simp;exact hK _ _ (Ext.box _ _) (Q1v (l:=[Q0y lc 9,Q0y lo 1024,Q0y li 1024]) (by simp))
          case g13=>
           intro v w1 hx (q11:v 11=_) (q12:Q0e w1 (v 12) [Q0y lc 9,Q0y lo 1024,Q0y li 1024]);intro bb hbb;subst hbb;intro K hK;go_simp;refine Q0d (HB.out _ _ q12) ?_;rintro e w2 ⟨rfl,rfl⟩;exact ⟨_,rfl,hK _ _ (Ext.refl _) rfl⟩
          case g14=>
           intro v w1 hx (q0:v 0=_) (q1:v 1=_) _ (q3:v 3=_) (q4:v 4=_) (q5:v 5=_) _ (q7:v 7=_) (q8:v 8=_) (q9:v 9=_) _ (q11:v 11=_) _ (q13:v 13=_);intro bb hbb;subst hbb;refine ⟨_,fun w=>?_,rfl⟩;go_simp
          case post =>
           intro v w1 hx;(iterate 2 intro (zq:v _=_));intro (q2:(fun v w'=>Q0e w' (v 2) (lc.map fun x=>Q0f x 0 9)) v w1);(iterate 3 intro (zq:v _=_));intro (q6:(fun v w'=>Q0e w' (v 6) (lo.map fun x=>Q0f x 0 1024)) v w1);(iterate 3 intro (zq:v _=_));intro (q10:(fun v w'=>Q0e w' (v 10) (li.map fun x=>Q0f x 0 1024)) v w1);(iterate 1 intro (zq:v _=_));intro (q12:Q0e w1 (v 12) [Q0y lc 9,Q0y lo 1024,Q0y li 1024]);(iterate 1 intro (zq:v _=_));intro (q14:v 14=_);simp only [Flow.All,Flow.acts,Act.put];go_simp;have Ox:=Lib.hid (Vq.trans hx);clear hx Vq q2 q6 q10 q12;(repeat clear zq)
           by_cases hb:EB=0
           . have hnb:(EB != 0)=false:=by simp [hb]
             have qq:Hid (Q3m s.Q3y s.members.length (k + 1)=s.err):=Lib.hid (by rw [Cy.out,L2.out,if_pos hb])
             clear hb;go_wp2;go_roundw
             case rel=>exact ⟨k + 1,by omega,by go_num,qq.out,rl.out.trans Ox.out⟩
             case measure=>simp [intOf]; omega
           . have hnb:(EB != 0)=true:=by simp [hb]
             have qq:Hid (s.err=EB):=Lib.hid (by rw [Cy.out,L2.out,if_neg hb])
             clear hb;go_wp2;go_ret;exact ⟨Q1c qq.out.symm,ij.out.trans Ox.out⟩
        . have jW:(EA != 0)=true:=by simp [ha]
          have qq:Hid (s.err=EA):=Lib.hid (by rw [Cy.out,Gg.out,if_neg ha,if_neg ha])
          clear ha;go_wp2;go_ret;exact ⟨Q1c qq.out.symm,aj.out.trans Ox.out⟩
     . go_wp2
       go_ret;exact ⟨Q1c (by rw [<- HR.out,X0d (by omega)]),iz.out.trans Dq⟩
  . have hne:(E != 0)=true:=by simp [fx]
    have jw:Hid (s.err=E):=Lib.hid (by rw [kW.out,if_neg fx])
    clear fx kW;go_wp2;go_ret;exact ⟨Q1c jw.out.symm,iz.out⟩
end Go.Proofs
namespace Go.Proofs
open Go.RowKit Go.Tw Go.Flow Tryz
def Y7h (x y:Int):Int:=if x < y then -1 else if y < x then 1 else 0
def cmpL:List Int -> List Int -> Int
 | [],[]=>0
 | [],_ :: _=>-1
 | _ :: _,[]=>1
 | x :: l,y :: m=>if x=y then cmpL l m else Y7h x y
def Y4m (a b:List Int):Int:=if Y7h a.length b.length=0 then cmpL a b else Y7h a.length b.length
theorem J2r {a b:List Int} {k:Nat} (ha:k < a.length) (hb:k < b.length):cmpL (a.drop k) (b.drop k)=if ix a k=ix b k then cmpL (a.drop (k + 1)) (b.drop (k + 1)) else Y7h (ix a k) (ix b k):=by
 rw [Q2v ha,Q2v hb]; rfl
theorem J7s {a b:List Int} {k:Nat} (ha:k < a.length) (hb:b.length <= k):cmpL (a.drop k) (b.drop k)=1:=by
 rw [Q2v ha,List.drop_eq_nil_of_le hb]; rfl
theorem J8s {a b:List Int} {k:Nat} (ha:a.length <= k) (hb:k < b.length):cmpL (a.drop k) (b.drop k)=-1:=by
 rw [Q2v hb,List.drop_eq_nil_of_le ha]; rfl
theorem cmpL_eq {a b:List Int} {k:Nat} (ha:a.length <= k) (hb:b.length <= k):cmpL (a.drop k) (b.drop k)=0:=by
 rw [List.drop_eq_nil_of_le hb,List.drop_eq_nil_of_le ha]; rfl
theorem X5k (w:World) (x y:Int) :
    Calls prog 189 #[.int .i64 x,.int .i64 y] w fun e w'=>e=.returned (.int .i64 (Y7h x y)) /\ w=w':=by
 unfold Y7h
 by_cases h1:x < y
 . rw [if_pos h1]
   go_enter func189,ntmps189;go_wp2;go_ret;exact ⟨rfl,rfl⟩
 . by_cases h2:y < x
   . rw [if_neg h1,if_pos h2]
     go_enter func189,ntmps189;go_wp2;go_ret;exact ⟨rfl,rfl⟩
   . rw [if_neg h1,if_neg h2]
     go_enter func189,ntmps189;go_wp2;go_ret;exact ⟨rfl,rfl⟩
theorem Y5c (w:World) (u v:Value) (a b:List Int) (hu:Q0e w u a) (hv:Q0e w v b) :
    Calls prog 190 #[u,v] w fun e w'=>e=.returned (.int .i64 (cmpL a b)) /\ w=w':=by
 obtain ⟨A,ca,rfl,Ov,Mw,Vz⟩:=hu.opened;obtain ⟨B,cb,rfl,Nv,jz,Rj⟩:=hv.opened;clear hu hv;go_enter func190,ntmps190;go_wp2
 go_loop [11] (fun i=>∃ k:Nat,k <= a.length /\ i=.int .i64 k /\ cmpL (a.drop k) (b.drop k)=cmpL a b) (fun i=>a.length - (intOf i).toNat)
 case atStart=>exact ⟨0,Nat.zero_le _,rfl,rfl⟩
 case round =>
  obtain ⟨k,hk,rfl,hr⟩:=hrel;have HR:=Lib.hid hr; clear hr
  by_cases Tq:k < a.length
  . obtain ⟨b1,off1,rfl,Rx⟩:=Vz k Tq
    by_cases Mx:k < b.length
    . obtain ⟨b2,off2,rfl,Xx⟩:=Rj k Mx
      have HS:=Lib.hid (J2r Tq Mx);obtain ⟨x,hx⟩:∃ x,ix a k=x:=⟨_,rfl⟩;obtain ⟨y,hy⟩:∃ y,ix b k=y:=⟨_,rfl⟩;rw [hx,hy] at HS;rw [hx] at Rx;rw [hy] at Xx;clear hx hy Vz Rj
      by_cases he:x=y
      . have hz:(Y7h x y != 0)=false:=by unfold Y7h; subst he; simp
        have HE:=Lib.hid he; clear he;go_wp2_with (go_at_call 189; refine (X5k _ _ _).mono ?_; rintro e w' ⟨rfl,rfl⟩);go_round
        case rel=>exact ⟨k + 1,by omega,by go_num,by rw [<- HR.out,HS.out,if_pos HE.out]⟩
        case measure=>simp [intOf]; omega
      . have hz:(Y7h x y != 0)=true:=by
         unfold Y7h
         rcases Int.lt_or_gt_of_ne he with h | h
         . rw [if_pos h]; rfl
         . rw [if_neg (by omega),if_pos h]; rfl
        have HE:=Lib.hid he; clear he;go_wp2_with (go_at_call 189; refine (X5k _ _ _).mono ?_; rintro e w' ⟨rfl,rfl⟩);go_ret;exact ⟨Q1c (by rw [<- HR.out,HS.out,if_neg HE.out]),rfl⟩
    . have HS:=Lib.hid (J7s Tq (Nat.le_of_not_lt Mx))
      clear Vz Rj;go_wp2;go_ret;exact ⟨Q1c (by rw [<- HR.out,HS.out]),rfl⟩
  . have Cj:k=a.length:=by omega
    by_cases Mx:a.length < b.length
    . have HS:=Lib.hid (J8s (Nat.le_of_not_lt Tq) (by rw [Cj]; exact Mx))
      clear Vz Rj Cj;go_wp2;go_ret;exact ⟨Q1c (by rw [<- HR.out,HS.out]),rfl⟩
    . have HS:=Lib.hid (cmpL_eq (Nat.le_of_not_lt Tq) (show b.length <= k by omega))
      clear Vz Rj Cj;go_wp2;go_ret;exact ⟨Q1c (by rw [<- HR.out,HS.out]),rfl⟩
theorem Z8k (w:World) (g:Nat) (x y:Int) (h0:w.cell? ⟨g,0,none⟩=some (.int .i64 x)) (h1:w.cell? ⟨g,1,none⟩=some (.int .i64 y)) :
    Calls prog 188 #[.slice (some ⟨g,0,none⟩) 2 2] w fun e w'=>e=.returned (.int .i64 (if x=0 then y else x)) /\ w=w':=by
 have HC:Hid (∀ k,k < 2 -> w.cell? ⟨g,0 + k,none⟩=some (.int .i64 (ix [x,y] k))):=Lib.hid (fun k hk=>match k,hk with | 0,_=>h0 | 1,_=>h1)
 have HE:Hid (Q0h [x,y]=if x=0 then y else x):=Lib.hid (by
  show (if x=0 then (if y=0 then 0 else y) else x)=_
  split
  . split <;> simp_all
  . rfl)
 rw [<- HE.out];clear h0 h1;obtain ⟨l,hl⟩:∃ l,[x,y]=l:=⟨_,rfl⟩;have zw:l.length=2:=by rw [<- hl]; rfl
 rw [hl] at HC ⊢;have V8:=Lib.hid zw;clear HE hl zw;go_enter func188,ntmps188;go_wp2
 go_loop [8] (fun i=>∃ k:Nat,k <= 2 /\ i=.int .i64 k /\ Q0h (l.drop k)=Q0h l) (fun i=>2 - (intOf i).toNat)
 case atStart=>exact ⟨0,Nat.zero_le _,rfl,rfl⟩
 case round =>
  obtain ⟨k,hk,rfl,hr⟩:=hrel;have HR:=Lib.hid hr; clear hr
  by_cases Tq:k < 2
  . have hc:=HC.out k Tq
    have yj:Q0h (l.drop k)=if ix l k=0 then Q0h (l.drop (k + 1)) else ix l k:=by rw [Q2v (by rw [V8.out]; exact Tq)]; rfl
    obtain ⟨z,hz⟩:∃ z,ix l k=z:=⟨_,rfl⟩;rw [hz] at hc yj;have qq:=Lib.hid yj;rw [Nat.zero_add] at hc;clear yj hz
    by_cases he:z=0
    . have aG:(z != 0)=false:=by simp [he]
      have HE:=Lib.hid he; clear he;go_wp2;go_round
      case rel=>exact ⟨k + 1,by omega,by go_num,by rw [<- HR.out,qq.out,if_pos HE.out]⟩
      case measure=>simp [intOf]; omega
    . have aG:(z != 0)=true:=by simp [he]
      have HE:=Lib.hid he; clear he;go_wp2;go_ret;exact ⟨Q1c (by rw [<- HR.out,qq.out,if_neg HE.out]),rfl⟩
  . go_wp2
    go_ret;exact ⟨Q1c (by rw [<- HR.out,List.drop_eq_nil_of_le (by rw [V8.out]; omega)]; rfl),rfl⟩
theorem X6s (w:World) (u v:Value) (a b:List Int) (hu:Q0e w u a) (hv:Q0e w v b) :
    Calls prog 160 #[u,v] w fun e w'=>e=.returned (.int .i64 (Y4m a b)) /\ ∃ o,w'=w.alloc o:=by
 have HU:=Lib.hid hu;have HV:=Lib.hid hv;obtain ⟨A,ca,rfl,Ov,Mw,Vz⟩:=hu.opened;obtain ⟨B,cb,rfl,Nv,jz,Rj⟩:=hv.opened;clear hu hv Vz Rj;have Y0:Hid (∀ (x y:Int),Calls prog 188 #[.slice (some ⟨w.heap.size,0,none⟩) 2 2] (w.alloc (.cells #[.int .i64 x,.int .i64 y] 3)) fun e w'=>e=.returned (.int .i64 (if x=0 then y else x)) /\ (w.alloc (.cells #[.int .i64 x,.int .i64 y] 3))=w'):=Lib.hid (fun x y=>Z8k _ w.heap.size x y ((Blk.made _ _ _).cell 0) ((Blk.made _ _ _).cell 1))
 have HH:Hid ((if Y7h a.length b.length=0 then cmpL a b else Y7h a.length b.length)=Y4m a b):=Lib.hid rfl
 go_enter func160,ntmps160;go_wp2_with (first | (go_at_call 190; refine (Y5c _ _ _ a b HU.out HV.out).mono ?_; rintro e w' ⟨rfl,rfl⟩) | (go_at_call 189; refine (X5k _ _ _).mono ?_; rintro e w' ⟨rfl,rfl⟩) | (go_at_call 188; refine (Y0.out _ _).mono ?_; rintro e w' ⟨rfl,rfl⟩; rw [HH.out]))
 go_ret;exact ⟨rfl,_,rfl⟩
theorem X2m (w:World) (u v:Value) (a b:List Int) (hu:Q0e w u a) (hv:Q0e w v b) :
    Calls prog 162 #[u,v] w fun e w'=>e=.returned (.bool (Y4m a b == 0)) /\ ∃ o,w'=w.alloc o:=by
 have HU:=Lib.hid hu;have HV:=Lib.hid hv;obtain ⟨A,ca,rfl,Ov,Mw,Vz⟩:=hu.opened;obtain ⟨B,cb,rfl,Nv,jz,Rj⟩:=hv.opened;clear hu hv Vz Rj;go_enter func162,ntmps162;go_wp2_with (go_at_call 160; refine (X6s _ _ _ a b HU.out HV.out).mono ?_; rintro e w' ⟨rfl,o,rfl⟩);go_ret;exact ⟨rfl,_,rfl⟩
end Go.Proofs
namespace Go.Proofs
open Go.RowKit Go.Tw Go.Flow Go.Sort Tryz
theorem Z9z (x y:Int):Y7h x y < 0 ↔ x < y:=by unfold Y7h; split <;> (try split) <;> omega
theorem Z0i (x y:Int) (l m:List Int):cmpL (x :: l) (y :: m) < 0 ↔ x < y ∨ (x=y /\ cmpL l m < 0):=by
 show (if x=y then cmpL l m else Y7h x y) < 0 ↔ _
 split
 . rename_i h; simp [h]
 . rename_i h; rw [Z9z]; simp [h]
theorem Z0x:∀ a b:List Int,a.length=b.length -> (Q5v a b=true ↔ cmpL a b < 0)
 | [],[],_=>by simp [Q5v,cmpL]
 | [],_ :: _,h=>by simp at h
 | _ :: _,[],h=>by simp at h
 | x :: l,y :: m,h=>by
   rw [Z0i];show (if x=y then Q5v l m else decide (x < y))=true ↔ _
   split
   . rename_i jQ
     rw [Z0x l m (by simpa using h)]
     simp [jQ]
   . rename_i jQ
     simp [jQ]
theorem X4c (x y:Int):Y7h x y=0 ↔ x=y:=by unfold Y7h; split <;> (try split) <;> omega
theorem Y9b:∀ a b:List Int,cmpL a b=0 ↔ a=b
 | [],[]=>by simp [cmpL]
 | [],_ :: _=>by simp [cmpL]
 | _ :: _,[]=>by simp [cmpL]
 | x :: l,y :: m=>by
   show (if x=y then cmpL l m else Y7h x y)=0 ↔ _
   split
   . rename_i h; rw [Y9b l m]; simp [h]
   . rename_i h; rw [X4c]; simp [h]
theorem X4j (a b:List Int):Y4m a b=0 ↔ a=b:=by
 unfold Y4m
 split
 . exact Y9b a b
 . rename_i h
   constructor
   . intro k; exact absurd k h
   . intro k; subst k; exact absurd ((X4c _ _).2 rfl) h
theorem Q7k (a b:List Int):Y4m a b < 0 ↔ Q2g a b=true:=by
 unfold Y4m Q2g
 split
 . rename_i h
   have hl:a.length=b.length:=by have:=(X4c _ _).1 h; omega
   rw [if_pos hl];exact (Z0x a b hl).symm
 . rename_i h
   have hl:¬ a.length=b.length:=fun e=>h (by rw [e]; exact (X4c _ _).2 rfl)
   rw [if_neg hl,Z9z,decide_eq_true_iff];omega
theorem Z3d (a:List Int):¬ Y4m a a < 0:=by rw [Q7k]; exact Q8g a
theorem Y3r {a b c:List Int} (h1:Y4m a b < 0) (h2:Y4m b c < 0):Y4m a c < 0:=by rw [Q7k] at *; exact Q7a h1 h2
theorem Z4t (a b:List Int):Y4m a b < 0 ∨ a=b ∨ Y4m b a < 0:=by
 rw [Q7k,Q7k];cases h:Q2g a b with
 | true=>exact .inl rfl
 | false=>exact .inr (X9p h)
theorem J5b (f:Nat -> List Int):SWO (ltOf fun x y:Nat=>Y4m (f x) (f y)) where
 irrefl x:=by simpa [ltOf] using Z3d (f x)
 trans x y z h1 h2:=by simp only [ltOf,decide_eq_true_eq] at *; exact Y3r h1 h2
 ntrans x y z h1 h2:=by
  simp only [ltOf,decide_eq_false_iff_not] at *;intro h
  rcases Z4t (f x) (f y) with h' | h' | h'
  . exact h1 h'
  . rw [h'] at h; exact h2 h
  . exact h2 (Y3r h' h)
def Sets (w:World) (vs:List Value) (ll:List (List Int)):Prop:=vs.length=ll.length /\ ∀ i,i < ll.length -> Q0n w 0 3 (.int .i64) (vs.getD i undef) (ll.getD i []) /\ (ll.getD i []).length <= 8
theorem Z3y {w W:World} {v:Value} {l:List Int} (h:Q0n w 0 3 (.int .i64) v l) (hb:∀ b,v.ownBlock=some b -> b < w.heap.size -> W.heap[b]?=w.heap[b]?):Q0n W 0 3 (.int .i64) v l:=by
 obtain ⟨h1,h2⟩:=h;refine ⟨h1,?_⟩
 rcases h2 with h2 | ⟨g,Qq,cur,hv,Qx,hg,r⟩
 . exact .inl h2
 . exact .inr ⟨g,Qq,cur,hv,Qx,(hb g (by rw [hv]; rfl) (Array.getElem?_eq_some_iff.1 hg).1).trans hg,r⟩
theorem Y6n {w:World} {v:Value} {l:List Int} {g:Nat} {cur:Array Value} {fr:Nat × Nat} (h:Q0n w 0 3 (.int .i64) v l) (hg:w.heap[g]?=some (.cells cur 166 fr)):v.ownBlock ≠ some g:=by
 intro e;obtain ⟨h1,h2⟩:=h
 rcases h2 with ⟨rfl,_⟩ | ⟨g',Qq,cur',rfl,Qx,Lk,r⟩
 . cases e
 . obtain rfl:g'=g:=by simpa [Value.ownBlock] using e
   rw [hg] at Lk;injection Lk with h;injection h with _ h;exact absurd h (by decide)
theorem Sets.at {w W:World} {vs:List Value} {ll:List (List Int)} (h:Sets w vs ll) (hb:∀ v l,Q0n w 0 3 (.int .i64) v l -> ∀ b,v.ownBlock=some b -> b < w.heap.size -> W.heap[b]?=w.heap[b]?):Sets W vs ll :=
 ⟨h.1,fun i hi=>⟨Z3y (h.2 i hi).1 (hb _ _ (h.2 i hi).1),(h.2 i hi).2⟩⟩
theorem Sets.ext {w W:World} {vs:List Value} {ll:List (List Int)} (h:Sets w vs ll) (hx:Ext w W):Sets W vs ll:=h.at fun _ _ _ b _ hb=>Below.block hx b hb
theorem Sets.reads {w:World} {vs:List Value} {ll:List (List Int)} (h:Sets w vs ll):Reads w vs ll:=⟨h.1,fun i hi=>(h.2 i hi).1.ints (by have:=(h.2 i hi).2; omega)⟩
theorem Sets.nil (w:World):Sets w [] []:=⟨rfl,fun i hi=>by simp at hi⟩
theorem Sets.snoc {w:World} {vs:List Value} {ll:List (List Int)} {v:Value} {l:List Int} (h:Sets w vs ll) (hv:Q0n w 0 3 (.int .i64) v l) (hl:l.length <= 8):Sets w (vs ++ [v]) (ll ++ [l]):=by
 refine ⟨by simp [h.1],fun i hi=>?_⟩
 rw [List.length_append,List.length_singleton] at hi
 by_cases Tq:i < ll.length
 . have e1:(vs ++ [v]).getD i undef=vs.getD i undef:=by simp [List.getElem?_append_left (show i < vs.length by rw [h.1]; exact Tq)]
   have e2:(ll ++ [l]).getD i []=ll.getD i []:=by simp [List.getElem?_append_left Tq]
   rw [e1,e2]; exact h.2 i Tq
 . have e:i=ll.length:=by omega
   have e1:(vs ++ [v]).getD i undef=v:=by rw [e,<- h.1]; simp
   have e2:(ll ++ [l]).getD i []=l:=by rw [e]; simp
   rw [e1,e2]; exact ⟨hv,hl⟩
theorem Q6g {α:Type} [Inhabited α] (enc:α -> Value) (w:World) (blk off n:Nat) (d:Array α) (os:Array Obj) {k:Nat} (hk:k < w.heap.size) (hne:k ≠ blk):(sortWorld enc w blk off n d os).heap[k]?=w.heap[k]?:=by
 unfold sortWorld;rw [heap_grow_old _ _ (by rw [size_putRow]; exact hk)]
 show (w.heap.modify blk _)[k]?=_;rw [Array.getElem?_modify,if_neg (fun h=>hne h.symm)]
theorem Y2m {α:Type} [Inhabited α] (enc:α -> Value) (w:World) (blk off n:Nat) (d:Array α) (os:Array Obj):w.heap.size <= (sortWorld enc w blk off n d os).heap.size:=by
 unfold sortWorld;rw [size_grow,size_putRow]; show w.heap.size <= w.heap.size + _; omega
theorem X9n {α:Type} [Inhabited α] (enc:α -> Value) (w:World) (blk off n:Nat) (d:Array α) (os:Array Obj):w.grownBy (sortWorld enc w blk off n d os) (some blk) :=
 ⟨rfl,rfl,rfl,Y2m _ _ _ _ _ _ _,fun k hk hne=>Q6g _ _ _ _ _ _ _ hk (fun e=>hne (by rw [e]))⟩
theorem Y1d {α:Type} [Inhabited α] (enc:α -> Value) (w:World) (blk off n:Nat) (d0 d:Array α) (os:Array Obj) (h0:Holds enc w blk off d0) (hs:d.size=d0.size) (hb:blk < w.heap.size):Holds enc (sortWorld enc w blk off n d os) blk off d:=by
 unfold sortWorld;exact holds_grow _ _ _ _ _ _ (by rw [size_putRow]; exact hb) (holds_putRow enc (Sort.ahead w n) blk off d0 d (holds_ahead _ _ _ _ _ _ h0) hs)
theorem J0i {w:World} {v:Value} {l:List Int} {g:Nat} {cs:Array Value} {T:TypeId} (hT:T ≠ 3) (h:Q0n w 0 3 (.int .i64) v l) (hg:Blk w g T cs):v.ownBlock ≠ some g:=by
 intro e;obtain ⟨h1,h2⟩:=h
 rcases h2 with ⟨rfl,_⟩ | ⟨g',Qq,cur',rfl,Qx,Lk,r⟩
 . cases e
 . obtain rfl:g'=g:=by simpa [Value.ownBlock] using e
   unfold Blk at hg;rw [hg] at Lk;injection Lk with h;injection h with _ h;exact hT h
theorem Y5e {α:Type} [Inhabited α] (enc:α -> Value) (w:World) (g n:Nat) (d:Array α) (os:Array Obj) {T:TypeId} {cur:Array Value} (hb:Blk w g T cur):∃ cur',Blk (sortWorld enc w g 0 n d os) g T cur' /\ cur'.size=cur.size:=by
 refine ⟨putCells enc 0 d cur,?_,by simp [putCells]⟩
 unfold Blk sortWorld;rw [heap_grow_old _ _ (by rw [size_putRow]; exact hb.lt)]
 show (w.heap.modify g _)[g]?=_;rw [Array.getElem?_modify,if_pos rfl];unfold Blk at hb;rw [hb]; rfl
def Sorted (ll:List (List Int)):Prop:=ll.Pairwise fun a b=>¬ Y4m b a < 0
def Z4x (w:World) (g:Nat) (cur vs:List Value) (ll:List (List Int)):Prop:=Blk w g 166 cur.toArray /\ cur.take vs.length=vs /\ Sets w vs ll
theorem J3q (w:World) (g Qq base:Nat) (vs:List Value) (ll:List (List Int)) (Yq:Q0n w base 166 idV (.slice (some ⟨g,0,none⟩) vs.length Qq) vs) (hs:Sets w vs ll) (lx:ll.length <= 4096) :
    Calls prog 159 #[.slice (some ⟨g,0,none⟩) ll.length Qq,.func (.func 160) #[] #[]] w fun e w'=>e=.returned (.tuple #[]) /\ ∃ ll' cur vs',ll'.Perm ll /\ Sorted ll' /\ Z4x w' g cur vs' ll' /\ w.grownBy w' (some g):=by
 obtain ⟨cur,By,Qj,Kq,mx⟩:∃ cur,w.heap[g]?=some (.cells cur 166 (0,0)) /\ g < w.heap.size /\ vs.length <= Qq /\ cur.toList.take vs.length=vs:=by
  obtain ⟨h1,h2⟩:=Yq
  rcases h2 with ⟨h2,_⟩ | ⟨g',cap',cur,hv,hb,hg,hc,hm,hz,ht⟩
  . cases h2
  . injection hv with e1 e2 e3
    injection e1 with e1;injection e1 with e1;subst e1; subst e3;refine ⟨cur,hg,(Array.getElem?_eq_some_iff.1 hg).1,hc,?_⟩;have hid:vs.map idV=vs:=by show vs.map id=vs; exact List.map_id vs
    rw [hid,Nat.mul_one] at ht;exact ht
 have Fq:=hs.1;obtain ⟨K,hK⟩:∃ K,ll.length=K:=⟨_,rfl⟩;rw [hK] at Fq lx ⊢
 let z:Value:=.slice none 0 0
 let enc:Nat -> Value:=fun x=>vs.getD x z
 let cont:Nat -> List Int:=fun x=>ll.getD x []
 have iQ:∀ x W,(∀ k,k < w.heap.size -> k ≠ g -> W.heap[k]?=w.heap[k]?) -> Q0e W (enc x) (cont x):=by
  intro x W hW
  by_cases hx:x < K
  . have h1:=(hs.2 x (by omega)).1
    have h2:=Z3y (W:=W) h1 (fun b hb jx=>hW b jx (fun e=>Y6n h1 By (by rw [<- e]; exact hb)))
    have h3:=h2.ints (by have:=(hs.2 x (by omega)).2; omega)
    have e1:vs.getD x undef=enc x:=by simp [enc,z,show x < vs.length by omega]
    rw [e1] at h3;exact h3
  . have e1:enc x=.slice none 0 0:=by simp [enc,z,show ¬ x < vs.length by omega,List.getD_eq_getElem?_getD]
    have e2:cont x=[]:=by simp [cont,List.getD_eq_getElem?_getD,List.getElem?_eq_none (show ll.length <= x by omega)]
    rw [e1,e2];exact Rows.nil 1 _ W
 have Fv:OneCell enc:=by
  intro x;obtain ⟨A,c,he,_⟩:=(iQ x w (fun _ _ _=>rfl)).opened
  rw [he]; rfl
 have hH:Holds enc w g 0 (Array.range K):=by
  intro j hj;rw [Array.size_range] at hj;have e1:(Array.range K)[j]! = j:=by rw [getElem!_pos _ j (by simpa using hj)]; simp
  rw [e1];refine ⟨?_,by simp [World.frozen?,By]⟩
  have h1:=congrArg (fun l=>l[j]?) mx;rw [Nat.zero_add];simp only [List.getElem?_take,show j < vs.length by omega,if_true] at h1
  show (match w.heap[g]? with | some (.cells c _ _)=>_ | _=>_)=_
  rw [By];simp only [Option.isSome_none,Bool.false_eq_true,if_false];rw [<- Array.getElem?_toList,h1];simp [enc,show j < vs.length by omega]
 have D5:CmpLays1 prog 160 #[] enc (fun x y=>Y4m (cont x) (cont y)) g 0 (Array.range K).size w:=by
  intro m os dk oW x y;have h:=X6s (sortWorld enc w g 0 m dk os) (enc x) (enc y) (cont x) (cont y) (iQ x _ (fun k hk hne=>Q6g _ _ _ _ _ _ _ hk hne)) (iQ y _ (fun k hk hne=>Q6g _ _ _ _ _ _ _ hk hne));exact h.mono fun e w' ⟨he,o,hw⟩=>⟨he,0,#[o],by rw [hw,alloc_eq_grow]; rfl⟩
 have eg:∀ args w,(callFunc 160 args).run prog w=.ok (.enter 160 args) w:=enters_of func160 (by kernel_rfl) rfl
 have gQ:=Any.slices_SortFunc J7r enc Fv (fun x y=>Y4m (cont x) (cont y)) (J5b cont) 160 #[] g 0 Qq (Array.range K) w eg D5 hH Qj (by rw [Array.size_range]; omega)
 rw [Array.size_range] at gQ;change Calls prog 159 _ _ _ at gQ;refine gQ.mono fun e w' ⟨he,d',n,os,hp,jZ,hw⟩=>⟨he,?_⟩;subst hw;obtain ⟨N2,_,mZ⟩:=hp;rw [Array.size_range] at N2;have L9:d'.toList.Perm (List.range K):=by
  have e1:d'.extract 0 K=d':=by rw [<- N2]; simp
  have e2:(Array.range K).extract 0 K=Array.range K:=by
   apply Array.toList_inj.1
   rw [Array.toList_extract,List.extract_eq_take_drop,List.drop_zero];exact List.take_of_length_le (by simp)
  rw [e1,e2] at mZ
  simpa using mZ
 have Mv:(List.range K).map cont=ll:=by
  apply List.ext_getElem
  . simp [hK]
  . intro i h1 h2; simp [cont,h2]
 obtain ⟨cur',Mk,Bk⟩:=Y5e enc w g n d' os (show Blk w g 166 cur from By)
 have ql:=Y1d enc w g 0 n (Array.range K) d' os hH (by simp [N2]) Qj
 have hcl:K <= cur'.size:=by
  have:cur.toList.length=cur.size:=Array.length_toList;have h2:=congrArg List.length mx;rw [List.length_take] at h2;omega
 have Zy:(d'.toList.map enc).length=K:=by simp [N2]
 refine ⟨d'.toList.map cont,cur'.toList,d'.toList.map enc,by rw [<- Mv]; exact L9.map cont,?_,⟨by rw [Array.toArray_toList]; exact Mk,?_,?_,?_⟩,X9n _ _ _ _ _ _ _⟩
 . unfold Sorted
   rw [List.pairwise_map,List.pairwise_iff_getElem];intro i j hi hj hij;have J3:i < d'.size:=by simpa using hi
   have Sv:j < d'.size:=by simpa using hj
   have h:=jZ i j (Nat.zero_le _) hij (by omega)
   rw [getElem!_pos d' i J3,getElem!_pos d' j Sv] at h
   simpa [ltOf] using h
 . apply List.ext_getElem
   . rw [List.length_take,Zy,Array.length_toList]; omega
   . intro i h1 h2
     have hi:i < K:=by rw [Zy] at h2; exact h2
     have h3:=(ql i (by omega)).1
     rw [Nat.zero_add,Mk.cell,Array.getElem?_eq_getElem (by omega),Option.some.injEq] at h3
     rw [List.getElem_take,Array.getElem_toList,h3,List.getElem_map,Array.getElem_toList,getElem!_pos d' i (by omega)]
 . simp
 . intro i hi
   have J3:i < K:=by simpa [N2] using hi
   have hid:i < d'.size:=by omega
   have hx:d'[i] < K:=by
    have:=L9.mem_iff.1 (show d'[i] ∈ d'.toList from by simp)
    exact List.mem_range.1 this
   have h1:=hs.2 d'[i] (by omega)
   have e1:(d'.toList.map enc).getD i undef=vs.getD d'[i] undef:=by
    rw [List.getD_eq_getElem?_getD,List.getElem?_eq_getElem (by rw [Zy]; exact J3),List.getElem_map,Array.getElem_toList]
    simp [enc,show d'[i] < vs.length by omega]
   have e2:(d'.toList.map cont).getD i []=ll.getD d'[i] []:=by
    rw [List.getD_eq_getElem?_getD,List.getElem?_eq_getElem (by simp [N2]; exact J3),List.getElem_map,Array.getElem_toList]
    simp [cont]
   rw [e1,e2];refine ⟨Z3y h1.1 fun b hb jx=>Q6g _ _ _ _ _ _ _ jx fun e=>Y6n h1.1 By (by rw [<- e]; exact hb),h1.2⟩
end Go.Proofs
namespace Go.Tw
open Go.RowKit Go.Flow
theorem Z3k {P:Program} {w:World} (t ty e:TypeId) (ht:P.underlying t=some (.slice e)) {g off:Nat} {T:TypeId} {cur:Array Value} (hb:Blk w g T cur) (n Qq:Nat) (hn:0 < n) (z:Value) (hz:∀ w,(zeroValue e).run P w=.ok z w) (h1:∀ v ∈ (Builtin.zeroCells z.cells n).toList,v.oneCell'=true) (Gz:off + (Builtin.zeroCells z.cells n).size <= cur.size) :
    ∃ w',(Builtin.clear_ #[t] ty #[.slice (some ⟨g,off,none⟩) n Qq]).run P w=.ok (.tuple #[]) w' /\ Blk w' g T (Q3c cur off (Builtin.zeroCells z.cells n).toList) /\ (∀ n,n <= g -> Below n w w') /\ ∀ k,k ≠ g -> w'.heap[k]?=w.heap[k]?:=by
 obtain ⟨w',hr,Mk,hl,S5⟩:=Q6x (P:=P) (off:=off) (Builtin.zeroCells z.cells n).toList 0 w cur hb h1 (by simpa using Gz)
 refine ⟨w',?_,by simpa using Mk,hl,S5⟩
 obtain ⟨m,rfl⟩:∃ m,n=m + 1:=⟨n - 1,by omega⟩
 simp [Builtin.clear_,run_underlying ht,hz,hr]
theorem X2g {P:Program} {w:World} {ops:Array Oper} {rest:List Oper} {o:Oper} {a:Act} {Q:Exit -> Act -> World -> Prop} (Za:o.guard=none) (x:Operand) (t e:TypeId) (ho:o.op=.call { callee:=.builtin .clear,args:=#[x],argTypes:=#[t] }) (ht:P.underlying t=some (.slice e))
    {g off n Qq:Nat} (hn:0 < n) (hx:a.eval x=.slice (some ⟨g,off,none⟩) n Qq) {T:TypeId} {cur:Array Value} (hb:Blk w g T cur) (z:Value) (hz:∀ w,(zeroValue e).run P w=.ok z w) (h1:∀ v ∈ (Builtin.zeroCells z.cells n).toList,v.oneCell'=true) (Gz:off + (Builtin.zeroCells z.cells n).size <= cur.size)
    (hK:∀ w',Blk w' g T (Q3c cur off (Builtin.zeroCells z.cells n).toList) -> (∀ n,n <= g -> Below n w w') -> (∀ k,k ≠ g -> w'.heap[k]?=w.heap[k]?) -> wpList P ops Q rest (a.put o.dst (.tuple #[])) w'):wpList P ops Q (o :: rest) a w:=by
 refine wpList_plain Za fun K' F4=>?_;unfold Oper.wp;obtain ⟨w',hr,Mk,hl,S5⟩:=Z3k (P:=P) t o.type e ht hb n Qq hn z hz h1 Gz;have zk:(execOp a.eval o).run P w=.ok (.value (.tuple #[])) w':=by
  unfold execOp;simp only [ho,resolve,invoke,builtin,Sem.run_bind,Sem.run_pure,Result.andThen_ok,List.map_toArray,List.map_cons,List.map_nil,hx,hr]
 rw [zk];exact F4 _ _ (hK w' Mk hl S5)
theorem X0x (n:Nat):(Builtin.zeroCells (Value.slice none 0 0).cells n).toList=List.replicate n (.slice none 0 0):=by
 apply List.ext_getElem?
 intro j;unfold Builtin.zeroCells
 by_cases hj:j < n
 . simp [Value.cells,hj,Nat.mod_one]
 . simp [Value.cells,hj]
end Go.Tw
namespace Go.Proofs
open Go.RowKit Go.Tw Go.Flow
structure Kept (ll r:List (List Int)) (j:Nat):Prop where
 asc:Asc r
 last:∃ r0,r=r0 ++ [ll.getD j []]
 mem:∀ x,x ∈ r ↔ x ∈ ll.take (j + 1)
theorem Kept.start {ll:List (List Int)} (h:0 < ll.length):Kept ll [ll.getD 0 []] 0 where
 asc:=by unfold Asc; simp
 last:=⟨[],rfl⟩
 mem x:=by rw [List.take_succ_eq_append_getElem h]; simp [h]
theorem X3i {ll:List (List Int)} {j:Nat} (hj:j + 1 < ll.length) (x:List Int):x ∈ ll.take (j + 2) ↔ x ∈ ll.take (j + 1) ∨ x=ll.getD (j + 1) []:=by
 have e:ll.getD (j + 1) []=ll[j + 1]:=by simp [hj]
 rw [show j + 2=(j + 1) + 1 from rfl,List.take_succ_eq_append_getElem hj,List.mem_append,List.mem_singleton,e]
theorem Kept.same {ll r:List (List Int)} {j:Nat} (h:Kept ll r j) (hj:j + 1 < ll.length) (he:ll.getD (j + 1) []=ll.getD j []):Kept ll r (j + 1) where
 asc:=h.asc
 last:=by rw [he]; exact h.last
 mem x:=by
  rw [X3i hj,h.mem x]
  constructor
  . exact .inl
  . rintro (k | k)
    . exact k
    . obtain ⟨r0,hr⟩:=h.last
      rw [<- h.mem x,k,he,hr]; simp
theorem Kept.snoc {ll r:List (List Int)} {j:Nat} (h:Kept ll r j) (hs:Sorted ll) (hj:j + 1 < ll.length) (he:ll.getD (j + 1) [] ≠ ll.getD j []):Kept ll (r ++ [ll.getD (j + 1) []]) (j + 1) where
 asc:=by
  have hb:Q2g (ll.getD j []) (ll.getD (j + 1) [])=true:=by
   have h1:=List.pairwise_iff_getElem.1 hs j (j + 1) (by omega) hj (by omega)
   have e1:ll.getD j []=ll[j]:=by simp [show j < ll.length by omega]
   have e2:ll.getD (j + 1) []=ll[j + 1]:=by simp [hj]
   rw [e1,e2] at he ⊢;rw [<- Q7k]
   rcases Z4t ll[j] ll[j + 1] with k | k | k
   . exact k
   . exact absurd k.symm he
   . exact absurd k h1
  obtain ⟨r0,hr⟩:=h.last;have ha:=h.asc;unfold Asc at ha ⊢;rw [List.pairwise_append];refine ⟨ha,List.pairwise_singleton _ _,?_⟩;intro a ham b Wv;rw [List.mem_singleton] at Wv;subst Wv;rw [hr,List.pairwise_append] at ha;rw [hr,List.mem_append,List.mem_singleton] at ham
  rcases ham with ham | ham
  . exact Q7a (ha.2.2 a ham _ (List.mem_singleton.2 rfl)) hb
  . subst ham; exact hb
 last:=⟨r,rfl⟩
 mem x:=by rw [X3i hj,List.mem_append,h.mem x,List.mem_singleton]
theorem Kept.all {ll r:List (List Int)} {j:Nat} (h:Kept ll r j) (hj:j + 1=ll.length):Asc r /\ ∀ x,x ∈ r ↔ x ∈ ll :=
 ⟨h.asc,fun x=>by rw [h.mem x,hj,List.take_length]⟩
theorem Kept.take_snoc {ll:List (List Int)} {j:Nat} (hj:j + 1 < ll.length):ll.take (j + 1) ++ [ll.getD (j + 1) []]=ll.take (j + 2):=by
 have e:ll.getD (j + 1) []=ll[j + 1]:=by simp [hj]
 rw [show j + 2=(j + 1) + 1 from rfl,List.take_succ_eq_append_getElem hj,e]
theorem Kept.first {ll:List (List Int)} (h:0 < ll.length):Kept ll (ll.take 1) 0:=by
 have e:ll.take 1=[ll.getD 0 []]:=by rw [List.take_succ_eq_append_getElem h]; simp [h]
 rw [e]; exact Kept.start h
theorem Tryz.J4q (w:World):(zeroValue 166).run Tryz.prog w=.ok (.slice none 0 0) w:=by kernel_rfl
theorem Tryz.J3k (w:World):(sizeOf 166).run Tryz.prog w=.ok 1 w:=by kernel_rfl
theorem Z4x.ext {w w':World} {g:Nat} {cur vs:List Value} {ll:List (List Int)} (h:Z4x w g cur vs ll) (hx:Ext w w'):Z4x w' g cur vs ll:=⟨h.1.ext hx,h.2.1,h.2.2.ext hx⟩
theorem Z4x.at {w:World} {g:Nat} {cur vs:List Value} {ll:List (List Int)} (h:Z4x w g cur vs ll) {k:Nat} (hk:k < ll.length) :
    w.cell? ⟨g,k,none⟩=some (vs.getD k undef) /\ Q0e w (vs.getD k undef) (ll.getD k []) /\ Q0n w 0 3 (.int .i64) (vs.getD k undef) (ll.getD k []) /\ (ll.getD k []).length <= 8:=by
 obtain ⟨hb,ht,hs⟩:=h;have hl:=hs.1;have h1:=hs.2 k hk;refine ⟨?_,h1.1.ints (by have:=h1.2; omega),h1.1,h1.2⟩
 rw [hb.cell,List.getElem?_toArray];have h2:=congrArg (fun l=>l[k]?) ht;simp only [List.getElem?_take,show k < vs.length by omega,if_true] at h2
 rw [h2];simp [show k < vs.length by omega]
theorem Z4x.reads {w:World} {g Qq:Nat} {cur vs:List Value} {ll:List (List Int)} (h:Z4x w g cur vs ll) (hl:ll.length <= 1000) (hc:ll.length <= Qq):Q4g w (.slice (some ⟨g,0,none⟩) ll.length Qq) ll :=
 ⟨fun k=>vs.getD k undef,⟨_,Qq,rfl,by omega,hc,fun j hj=>⟨g,0,rfl,by rw [Nat.zero_add]; exact (h.at (by omega)).1⟩⟩,fun j hj=>by
  have:=(h.at hj).2.1
  simpa [hj] using this⟩
end Go.Proofs
