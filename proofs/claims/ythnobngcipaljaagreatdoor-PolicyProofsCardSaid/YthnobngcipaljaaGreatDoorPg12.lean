/- Part of a proof. -/
import Derived.Test.YthnobngcipaljaaGreatDoorPg11
set_option maxRecDepth 1000000
set_option maxHeartbeats 64000000
set_option linter.unusedVariables false
set_option linter.unusedSimpArgs false
set_option linter.constructorNameAsVariable false
open Go.Lib (hid)
namespace Go.Proofs
open Go.RowKit Go.Tw Go.Flow Tryz
attribute [local go_sem] Oper.semAt_some
theorem fzb12 {a b:Nat} (h:a < b:=by rw [hbb]; simp only [Flow.size_put]; show _ < 164; decide):a < b:=h
theorem fzc12 {u:Type} {a b:u} (h:a=b:=by rw [hbb]; dsimp only; (try simp (discharger:=decide) only [Flow.eval_put_ne]); rw [Flow.Q0a (by simp only [Flow.size_put]; show _ < 164; decide)]; assumption):a=b:=h
theorem fze12 {u:Type} {a b:u} (h:a=b:=by rw [hbb]; dsimp only; (try simp (discharger:=decide) only [Flow.eval_put_ne]); rfl):a=b:=h
theorem J1w (p:List Rul):X3d p p=true:=by unfold X3d; simp
theorem J0o (p:List Grp):Q4w p p=true:=by unfold Q4w; simp
theorem J4b {s:Q0b} {p:List Rul} (h:¬ Q1j s p=0):Q5c s p=[] /\ Q4f s p=[]:=⟨if_neg h,if_neg h⟩
theorem Z9d {s:Q0b} {p:List Rul} (h:Q1j s p=0):Q5c s p=Q2k s p /\ Q4f s p=p:=⟨if_pos h,if_pos h⟩
theorem Z4d {s:Q0b} {need:Int} (h:Q0h [s.err,Q0f need 0 8000]=0):Q5w s need=J9e s need /\ Q2w s need=K0o s need:=by
 have e:Q5w s need=J9e s need:=if_pos h;refine ⟨e,?_⟩;unfold Q2w;rw [e];unfold J9e K0o
 by_cases h1:need <= Q4u s
 . rw [if_pos h1,if_pos h1]; rfl
 . rw [if_neg h1,if_neg h1]; rfl
theorem Z8b {s:Q0b} {need:Int} (h:¬ Q0h [s.err,Q0f need 0 8000]=0):Q5w s need=Q0h [s.err,Q0f need 0 8000] /\ Q2w s need=[]:=by
 have e:Q5w s need=Q0h [s.err,Q0f need 0 8000]:=if_neg h;refine ⟨e,?_⟩;unfold Q2w;rw [e,if_neg h]
theorem Y9h {s:Q0b} {need:Int} {g:List Grp} (h:Q0h [s.err,Q0f need 0 8000]=0):Q6c s need g=J6j s need g:=by
 rw [X5f,if_pos h]; rfl
theorem Z2f {s:Q0b} {need:Int} {g:List Grp} (h:¬ Q0h [s.err,Q0f need 0 8000]=0):Q6c s need g=Q0h [s.err,Q0f need 0 8000]:=by
 rw [X5f,if_neg h]
theorem J0d {s:Q0b} {p:List Rul} (h:p.length <= 4096):(Q4f s p).length <= 4096:=by
 unfold Q4f
 split
 . exact h
 . exact Nat.zero_le _
theorem Z3c (s:Q0b) (need:Int):(Q2w s need).length <= 4096:=by
 unfold Q2w
 split
 . rename_i h
   have hv := Q0w.of (X6n (show Q8y s need = 0 by unfold Q5w at h; split at h <;> assumption))
   rw [Q9f,List.length_map];have:=X4d (Q8h s) s.members.length;have:=hv.some.2;omega
 . exact Nat.zero_le _
theorem J4f {F:Array Value} (h:F.size=164):∃ u:Nat -> Value,F=#[u 0,u 1,u 2,u 3,u 4,u 5,u 6,u 7,u 8,u 9,u 10,u 11,u 12,u 13,u 14,u 15,u 16,u 17,u 18,u 19,u 20,u 21,u 22,u 23,u 24,u 25,u 26,u 27,u 28,u 29,u 30,u 31,u 32,u 33,u 34,u 35,u 36,u 37,u 38,u 39,u 40,u 41,u 42,u 43,u 44,u 45,u 46,u 47,u 48,u 49,u 50,u 51,u 52,u 53,u 54,u 55,u 56,u 57,u 58,u 59,u 60,u 61,u 62,u 63,u 64,u 65,u 66,u 67,u 68,u 69,u 70,u 71,u 72,u 73,u 74,u 75,u 76,u 77,u 78,u 79,u 80,u 81,u 82,u 83,u 84,u 85,u 86,u 87,u 88,u 89,u 90,u 91,u 92,u 93,u 94,u 95,u 96,u 97,u 98,u 99,u 100,u 101,u 102,u 103,u 104,u 105,u 106,u 107,u 108,u 109,u 110,u 111,u 112,u 113,u 114,u 115,u 116,u 117,u 118,u 119,u 120,u 121,u 122,u 123,u 124,u 125,u 126,u 127,u 128,u 129,u 130,u 131,u 132,u 133,u 134,u 135,u 136,u 137,u 138,u 139,u 140,u 141,u 142,u 143,u 144,u 145,u 146,u 147,u 148,u 149,u 150,u 151,u 152,u 153,u 154,u 155,u 156,u 157,u 158,u 159,u 160,u 161,u 162,u 163]:=by
 refine ⟨fun i=>F.getD i undef,?_⟩;have e:F=((List.range 164).map fun i=>F.getD i undef).toArray:=by
  apply Array.ext
  . simp [h]
  . intro i h1 h2
    simp [h1]
 exact e.trans (by kernel_rfl)
theorem J6t {w z0:World} {s:Q0b} {p:List Rul} {l:List Int} {g:List Grp} {A B R L X:Option Addr} {T M Uq Wq gs gp gc NR Gq NL ej NG og:Nat} {lim need:Int} (Lq:Hid (Ext w z0)) (uq:Hid (Words z0)) (H2:Hid (Q2t z0 (.slice A T Uq) (.slice B M Wq) s)) (Nj:Hid (Q1d z0 (.slice R NR Gq) p)) (HL:Hid (Q0e z0 (.slice L NL ej) l)) (HG:Hid (Q1q z0 (.slice X NG og) g)) (KB:Hid (Blk z0 gs 25 #[.int .i64 lim,.slice A T Uq,.slice B M Wq])) (KP:Hid (Blk z0 gp 121 #[.int .i64 need,.slice R NR Gq,.slice L NL ej,.slice X NG og])) (KT:Hid (Blk z0 gc 118 #[.slice R NR Gq,.slice L NL ej])) (Mj:Hid (∀ W,Q2t W (.slice A T Uq) (.slice B M Wq) s -> Q0g W (.agg #[.int .i64 lim,.slice A T Uq,.slice B M Wq]) s)) (Nw:Hid (∀ W,Q1d W (.slice R NR Gq) p -> Q0m W (.agg #[.slice R NR Gq]) p)) (HS:Hid (Q3v s)) (Bw:Hid (Y3h p)) (d9:Hid (l.length <= 9)) (QQ:Hid (Y3l g))
    (F:Array Value) (hF:F.size=164) (f2:F[2]?=some (.pointer (some ⟨gs,0,none⟩))) (f3:F[3]?=some (.pointer (some ⟨gp,0,none⟩))) (f5:F[5]?=some (.pointer (some ⟨gc,0,none⟩))) :
    (codeFrom Tryz.f11 4).wp prog (bodyPost prog Tryz.f11 (fun e w'=>e=.returned (.bool true) /\ Ext w w')) ⟨F,[]⟩ z0:=by
 obtain ⟨u,rfl⟩:=J4f hF;replace f2:u 2=_:=Option.some.inj f2;replace f3:u 3=_:=Option.some.inj f3;replace f5:u 5=_:=Option.some.inj f5;rw [f2,f3,f5];clear hF f2 f3 f5
 conv=>arg 2; whnf
 have Gk:Hid (p.length <= 1000):=hid (by have:=Bw.out.rules; omega)
 have jd:Hid (p.length <= 4096):=hid (by have:=Bw.out.rules; omega)
 have lV:Hid (∀ k,k < p.length -> (Q0k p k).length <= 4096):=hid (fun k hk=>by have:=Bw.out.each k hk; omega)
 have Q0:Hid (g.length <= 1000 /\ ∀ k,k < g.length -> (Q1w g k).length <= 1000):=hid ⟨by have:=QQ.out.groups; omega,fun k hk=>by have:=QQ.out.each k hk; omega⟩
 obtain ⟨E,hE⟩:∃ z,Q1j s p=z:=⟨_,rfl⟩;have HE:=hid hE;clear hE;obtain ⟨RE,zi⟩:∃ z,Q5w s need=z:=⟨_,rfl⟩;have Vv:=hid zi;clear zi;obtain ⟨TH,yi⟩:∃ z,Q6c s need g=z:=⟨_,rfl⟩;have gd:=hid yi;clear yi;obtain ⟨CE,SQ⟩:∃ z,Q8z s need p l=z:=⟨_,rfl⟩;have qz:=hid SQ;clear SQ;obtain ⟨B0,od⟩:∃ z,s.err=z:=⟨_,rfl⟩;have zX:=hid od;clear od;obtain ⟨NE,xi⟩:∃ z,Q0f need 0 8000=z:=⟨_,rfl⟩;have Zk:=hid xi;clear xi;obtain ⟨F0,fd⟩:∃ z,Q0h [B0,NE]=z:=⟨_,rfl⟩;have f9:=hid fd;have Pk:Hid (Q0h [s.err,Q0f need 0 8000]=F0):=hid (by rw [zX.out,Zk.out,fd])
 clear fd;go_wp2_with fail;have Vq:=(Ext.refl z0).drew;refine Flow.Q4h [.w,.w,.p,.w,.w,.w,.p,.p,.p,.w,.last,.last] [0,1,2,3,4,5,6,7,8,9,10,11] [[],[0],[],[2],[0,1,2,3],[0,1,2,3,4],[0,1,2,3,4,5],[0,1,2,3,4,5,6],[0,1,2,3,4,5,6],[],[0,1,2,3,4,5,6,7,9],[0,1,2,3,4,5,6,7,8,9,10]] [10,11]
  [.c 0 (.agg #[.int .i64 lim,.slice A T Uq,.slice B M Wq]),⟨fun v wz=>(fun v w'=>Q0g w' (v 1) s) v wz,by intro v a b hx h; exact Q0g.ext h hx⟩,.c 2 (.pointer (some ⟨gc,0,none⟩)),.c 3 (.agg #[.slice R NR Gq]),⟨fun v wz=>(fun v w'=>Q0m w' (v 4) p) v wz,by intro v a b hx h; exact Q0m.ext h hx⟩,⟨fun v wz=>(fun v w'=>∃ x y,v 5=.tuple #[.agg #[x,y],.int .i64 E] /\ Q1d w' x (Q4f s p) /\ Q0e w' y (Q5c s p)) v wz,by rintro v a b hx ⟨x,y,h1,h2,h3⟩; exact ⟨x,y,h1,h2.ext hx,h3.ext hx⟩⟩,⟨fun v wz=>(fun v w'=>v 6=v 5) v wz,by intro v a b hx h; exact h⟩,⟨fun v wz=>(fun v w'=>v 5=.tuple #[v 7,.int .i64 E]) v wz,by intro v a b hx h; exact h⟩,.c 8 (.int .i64 E),⟨fun v wz=>(fun v w'=>∃ g,v 9=.pointer (some ⟨g,0,none⟩) /\ Blk w' g 124 #[.slice none 0 0,.slice none 0 0] /\ z0.heap.size <= g) v wz,by rintro v a b hx ⟨g,h1,h2,h3⟩; exact ⟨g,h1,h2.ext hx,h3⟩⟩,.none,.none]
  [fun v w1 w'=>∃ g X c Y d,v 9=.pointer (some ⟨g,0,none⟩) /\ Blk w' g 124 #[.slice X (Q4f s p).length c,.slice Y (Q5c s p).length d] /\ Q1d w' (.slice X (Q4f s p).length c) (Q4f s p) /\ Q0e w' (.slice Y (Q5c s p).length d) (Q5c s p) /\ Ext z0 w',fun v w1 w'=>v 11=.int .i64 E /\ ∃ g X c Y d,v 9=.pointer (some ⟨g,0,none⟩) /\ Blk w' g 124 #[.slice X (Q4f s p).length c,.slice Y (Q5c s p).length d] /\ Q1d w' (.slice X (Q4f s p).length c) (Q4f s p) /\ Q0e w' (.slice Y (Q5c s p).length d) (Q5c s p) /\ Ext z0 w'] (by kernel_rfl) rfl (by kernel_rfl) ⟨?g0,?g1,?g2,?g3,?g4,?g5,?g6,?g7,?g8,?g9,?g10,?g11,trivial⟩ ?post
 case g0=>
  intro v w1 hx;intro bb hbb;intro K2 jq;have o1:bb.eval (.tmp 2)=.pointer (some ⟨gs,0,none⟩):=fze12
  exact Q0i (.tmp 2) _ rfl Q9r Q6r o1 (KB.out.ext (Vq.trans hx)) rfl (jq _ _ (Ext.refl _) rfl)
 case g1=>
  intro v w1 hx;(repeat intro (zq:v _=_));intro bb hbb;subst hbb;intro K2 jq;go_simp;refine Q0d (X4q w1 _ s (Mj.out _ (H2.out.ext (Vq.trans hx))) HS.out) ?_;rintro e w2 ⟨u,rfl,hu,Mq⟩;exact ⟨_,rfl,jq _ _ Mq hu⟩
 case g2=>
  intro v w1 hx;intro bb hbb;subst hbb;refine ⟨_,fun w=>?_,rfl⟩;go_simp
 case g3=>
  intro v w1 hx;(repeat intro (zq:v _=_));intro bb hbb;intro K hK;have o1:bb.eval (.tmp 45)=.pointer (some ⟨gc,0,none⟩):=by rw [hbb]; dsimp only; (try simp (discharger:=decide) only [eval_put_ne]); rw [Q0a (by simp only [size_put]; exact (by decide:45 < 164))]; assumption
  exact Q1m (.tmp 45) _ rfl X2l Q7r o1 (Q6h (KT.out.ext (Vq.trans hx))) rfl (hK _ _ (Ext.refl _) rfl)
 case g4=>
  intro v w1 hx (q0:v 0=_) _ (q2:v 2=_) (q3:v 3=_);intro bb hbb;subst hbb;intro K2 jq;go_simp;refine Q0d (J2c w1 _ p (Nw.out _ (Nj.out.ext (Vq.trans hx))) jd.out lV.out) ?_;rintro e w2 ⟨u,rfl,hu,Mq⟩;exact ⟨_,rfl,jq _ _ Mq hu⟩
 case g5=>
  intro v w1 hx (q0:v 0=_) (q1:(fun v w'=>Q0g w' (v 1) s) v w1) (q2:v 2=_) (q3:v 3=_) (q4:(fun v w'=>Q0m w' (v 4) p) v w1);intro bb hbb;subst hbb;intro K2 jq;go_simp;refine Q0d (Y7o w1 _ _ s p q1 q4 HS.out Gk.out lV.out) ?_;rintro e w2 ⟨⟨u,v,rfl,hu,hv⟩,Mq⟩;rw [HE.out];exact ⟨_,rfl,jq _ _ Mq ⟨_,_,rfl,hu,hv⟩⟩
 case g6=>
  intro v w1 hx (q0:v 0=_) _ (q2:v 2=_) (q3:v 3=_) _ _;intro bb hbb;have o1:bb.eval (.tmp 48)=v 5:=by rw [hbb]; dsimp only; (try simp (discharger:=decide) only [eval_put_ne]); rw [Q0a (by simp only [size_put]; exact (by decide:48 < 164))]
  exact ⟨_,fun w=>Y7u (.tmp 48) rfl o1,rfl⟩
 case g7=>
  intro v w1 hx (q0:v 0=_) _ (q2:v 2=_) (q3:v 3=_) _ (q5:(fun v w'=>∃ x y,v 5=.tuple #[.agg #[x,y],.int .i64 E] /\ Q1d w' x (Q4f s p) /\ Q0e w' y (Q5c s p)) v w1) (q6:(fun v w'=>v 6=v 5) v w1);intro bb hbb;obtain ⟨x,y,h5,_⟩:=q5;have o1:bb.eval (.tmp 42)=.tuple #[.agg #[x,y],.int .i64 E]:=by rw [<- h5,<- q6]; rw [hbb]; dsimp only; (try simp (discharger:=decide) only [eval_put_ne]); rw [Q0a (by simp only [size_put]; exact (by decide:42 < 164))]
  exact ⟨_,fun w=>Q9d (.tmp 42) 0 rfl o1 (fun w=>J9j w _ _),h5⟩
 case g8=>
  intro v w1 hx (q0:v 0=_) _ (q2:v 2=_) (q3:v 3=_) _ (q5:(fun v w'=>∃ x y,v 5=.tuple #[.agg #[x,y],.int .i64 E] /\ Q1d w' x (Q4f s p) /\ Q0e w' y (Q5c s p)) v w1) (q6:(fun v w'=>v 6=v 5) v w1);intro bb hbb;obtain ⟨x,y,h5,_⟩:=q5;have o1:bb.eval (.tmp 42)=.tuple #[.agg #[x,y],.int .i64 E]:=by rw [<- h5,<- q6]; rw [hbb]; dsimp only; (try simp (discharger:=decide) only [eval_put_ne]); rw [Q0a (by simp only [size_put]; exact (by decide:42 < 164))]
  exact ⟨_,fun w=>Q9d (.tmp 42) 1 rfl o1 (fun w=>K0f w _ _),rfl⟩
 case g9=>
  intro v w1 hx;intro bb hbb;subst hbb;intro K hK;go_simp;exact hK _ _ (Ext.box _ _) ⟨_,rfl,Blk.made _ _ _,(Vq.trans hx).size⟩
 case g10=>
  intro v w1 hx (q0:v 0=_) _ (q2:v 2=_) (q3:v 3=_) _ (q5:(fun v w'=>∃ x y,v 5=.tuple #[.agg #[x,y],.int .i64 E] /\ Q1d w' x (Q4f s p) /\ Q0e w' y (Q5c s p)) v w1) _ (q7:(fun v w'=>v 5=.tuple #[v 7,.int .i64 E]) v w1) (q9:(fun v w'=>∃ g,v 9=.pointer (some ⟨g,0,none⟩) /\ Blk w' g 124 #[.slice none 0 0,.slice none 0 0] /\ z0.heap.size <= g) v w1);intro wl hT;obtain rfl:wl=w1:=hT;intro bb hbb;intro K hK;obtain ⟨x,y,h5,Z1,vi⟩:=q5;obtain ⟨g,e9,h9,Lp⟩:=q9;obtain ⟨X,c,rfl,-,-,-⟩:=Z1.opened;obtain ⟨Y,d,rfl,-,-,-⟩:=vi.opened;have h7:v 7=.agg #[.slice X (Q4f s p).length c,.slice Y (Q5c s p).length d]:=by have h:=h5.symm.trans q7; simp only [Value.tuple.injEq,Array.mk.injEq,List.cons.injEq,and_true] at h; exact h.symm
  have o1:bb.eval (.tmp 6)=.pointer (some ⟨g,0,none⟩):=by rw [hbb]; dsimp only; (try simp (discharger:=decide) only [eval_put_ne]); rw [Q0a (by simp only [size_put]; exact (by decide:6 < 164))]; exact e9
  have o2:bb.eval (.tmp 49)=.agg #[.slice X (Q4f s p).length c,.slice Y (Q5c s p).length d]:=by rw [hbb]; dsimp only; (try simp (discharger:=decide) only [eval_put_ne]); rw [Q0a (by simp only [size_put]; exact (by decide:49 < 164))]; exact h7
  exact Q2i (.tmp 6) (.tmp 49) _ rfl Y9k o1 o2 h9 rfl rfl X0h (fun vv w' hb hl ho=>hK _ _ ⟨g,_,_,_,_,e9,hb,Y0o Z1 h9 (fun k _ hk=>ho k hk),X1i vi h9 (fun k _ hk=>ho k hk),Below.trans (Vq.trans hx) (hl _ Lp)⟩)
 case g11=>
  intro v w1 hx (q0:v 0=_) _ (q2:v 2=_) (q3:v 3=_) _ _ _ _ (q8:v 8=_) _;intro wl hT;replace hT:(fun v w1 w'=>∃ g X c Y d,v 9=.pointer (some ⟨g,0,none⟩) /\ Blk w' g 124 #[.slice X (Q4f s p).length c,.slice Y (Q5c s p).length d] /\ Q1d w' (.slice X (Q4f s p).length c) (Q4f s p) /\ Q0e w' (.slice Y (Q5c s p).length d) (Q5c s p) /\ Ext z0 w') v w1 wl:=hT;intro bb hbb;subst hbb;intro K hK;go_simp;exact hK _ _ ⟨rfl,hT⟩
 case post =>
  intro v w1 hx (q0:v 0=_) (q1:(fun v w'=>Q0g w' (v 1) s) v w1) (q2:v 2=_) (q3:v 3=_) (q4:(fun v w'=>Q0m w' (v 4) p) v w1) (q5:(fun v w'=>∃ x y,v 5=.tuple #[.agg #[x,y],.int .i64 E] /\ Q1d w' x (Q4f s p) /\ Q0e w' y (Q5c s p)) v w1) (q6:(fun v w'=>v 6=v 5) v w1) (q7:(fun v w'=>v 5=.tuple #[v 7,.int .i64 E]) v w1) (q8:v 8=_) (q9:(fun v w'=>∃ g,v 9=.pointer (some ⟨g,0,none⟩) /\ Blk w' g 124 #[.slice none 0 0,.slice none 0 0] /\ z0.heap.size <= g) v w1);intro w2 hE;replace hE:(fun v w1 w'=>v 11=.int .i64 E /\ ∃ g X c Y d,v 9=.pointer (some ⟨g,0,none⟩) /\ Blk w' g 124 #[.slice X (Q4f s p).length c,.slice Y (Q5c s p).length d] /\ Q1d w' (.slice X (Q4f s p).length c) (Q4f s p) /\ Q0e w' (.slice Y (Q5c s p).length d) (Q5c s p) /\ Ext z0 w') v w1 w2:=hE;simp only [Flow.acts,Act.put];go_simp;obtain ⟨ui,gy,Xc,cc,Yc,dc,e9,Tv,hic,ed,Qy⟩:=hE
  try rw [ui]
  try rw [e9]
  obtain ⟨nc,XG⟩:∃ z,(Q4f s p).length=z:=⟨_,rfl⟩;obtain ⟨mc,oJ⟩:∃ z,(Q5c s p).length=z:=⟨_,rfl⟩;rw [XG,oJ] at Tv;rw [XG] at hic;rw [oJ] at ed;have Zq:=Qy;replace Lq:=hid (Lq.out.trans Zq);replace uq:=hid (uq.out.ext Zq);replace H2:=hid (H2.out.ext Zq);replace Nj:=hid (Nj.out.ext Zq);replace HL:=hid (HL.out.ext Zq);replace HG:=hid (HG.out.ext Zq);replace KB:=hid (KB.out.ext Zq);replace KP:=hid (KP.out.ext Zq);replace KT:=hid (KT.out.ext Zq);have KY:=hid (Tv);have FR:=hid (hic);have FI:=hid (ed);obtain ⟨z1,rfl⟩:∃ Z,Z=w2:=⟨_,rfl⟩;clear hx Vq Zq q0 q1 q2 q3 q4 q5 q6 q7 q8 q9 Tv hic ed Qy ui e9;have yJ:=hid XG;have BX:=hid oJ;clear XG oJ;go_wp2_with fail;have Vq:=(Ext.refl z1).drew;refine Flow.Q1h [.w,.w,.p,.w,.w,.p,.p,.p,.p,.p] [0,1,2,3,4,5,6,7,8,9] [[],[0],[],[2],[1,3],[4],[4,5],[4,5],[0,1,2,3,4,5,6],[0,1,2,3,4,5,6,7,8]]
   [.c 0 (.agg #[.int .i64 lim,.slice A T Uq,.slice B M Wq]),⟨fun v wz=>(fun v w'=>Q0g w' (v 1) s) v wz,by intro v a b hx h; exact Q0g.ext h hx⟩,.c 2 (.pointer (some ⟨gp,0,none⟩)),.c 3 (.int .i64 need),⟨fun v wz=>(fun v w'=>∃ x,v 4=.tuple #[x,.int .i64 RE] /\ Q1q w' x (Q2w s need)) v wz,by rintro v a b hx ⟨x,h1,h2⟩; exact ⟨x,h1,h2.ext hx⟩⟩,⟨fun v wz=>(fun v w'=>v 5=v 4) v wz,by intro v a b hx h; exact h⟩,⟨fun v wz=>(fun v w'=>v 4=.tuple #[v 6,.int .i64 RE]) v wz,by intro v a b hx h; exact h⟩,.c 7 (.int .i64 RE),⟨fun v wz=>(fun v w'=>v 8=v 6) v wz,by intro v a b hx h; exact h⟩,.c 9 (.int .i64 RE)]
   (by kernel_rfl) rfl (by kernel_rfl) ⟨?g0,?g1,?g2,?g3,?g4,?g5,?g6,?g7,?g8,?g9,trivial⟩ ?post
  case g0=>
   intro v w1 hx;intro bb hbb;intro K2 jq;have o1:bb.eval (.tmp 2)=.pointer (some ⟨gs,0,none⟩):=fze12
   exact Q0i (.tmp 2) _ rfl Q9r Q6r o1 (KB.out.ext (Vq.trans hx)) rfl (jq _ _ (Ext.refl _) rfl)
  case g1=>
   intro v w1 hx;(repeat intro (zq:v _=_));intro bb hbb;subst hbb;intro K2 jq;go_simp;refine Q0d (X4q w1 _ s (Mj.out _ (H2.out.ext (Vq.trans hx))) HS.out) ?_;rintro e w2 ⟨u,rfl,hu,Mq⟩;exact ⟨_,rfl,jq _ _ Mq hu⟩
  case g2=>
   intro v w1 hx;intro bb hbb;subst hbb;refine ⟨_,fun w=>?_,rfl⟩;go_simp
  case g3=>
   intro v w1 hx;(repeat intro (zq:v _=_));intro bb hbb;subst hbb;have n0:w1.cell? ⟨gp,0,none⟩=some (.int .i64 need):=(KP.out.ext (Vq.trans hx)).cell 0;intro K hK;go_simp;exact hK _ _ (Ext.refl _) rfl
  case g4=>
   intro v w1 hx (q1:(fun v w'=>Q0g w' (v 1) s) v w1) (q3:v 3=_);intro bb hbb;subst hbb;intro K2 jq;go_simp;refine Q0d (Y1u w1 _ s need q1 HS.out) ?_;rintro e w2 ⟨u,rfl,hu,Mq⟩;rw [Vv.out];exact ⟨_,rfl,jq _ _ Mq ⟨_,rfl,hu⟩⟩
  case g5=>
   intro v w1 hx _;intro bb hbb;have o1:bb.eval (.tmp 56)=v 4:=by rw [hbb]; dsimp only; (try simp (discharger:=decide) only [eval_put_ne]); rw [Q0a (by simp only [size_put]; exact (by decide:56 < 164))]
   exact ⟨_,fun w=>Y7u (.tmp 56) rfl o1,rfl⟩
  case g6=>
   intro v w1 hx (q4:(fun v w'=>∃ x,v 4=.tuple #[x,.int .i64 RE] /\ Q1q w' x (Q2w s need)) v w1) (q5:(fun v w'=>v 5=v 4) v w1);intro bb hbb;obtain ⟨x,h5,_⟩:=q4;have o1:bb.eval (.tmp 51)=.tuple #[x,.int .i64 RE]:=by rw [<- h5,<- q5]; rw [hbb]; dsimp only; (try simp (discharger:=decide) only [eval_put_ne]); rw [Q0a (by simp only [size_put]; exact (by decide:51 < 164))]
   exact ⟨_,fun w=>Q9d (.tmp 51) 0 rfl o1 (fun w=>J9j w _ _),h5⟩
  case g7=>
   intro v w1 hx (q4:(fun v w'=>∃ x,v 4=.tuple #[x,.int .i64 RE] /\ Q1q w' x (Q2w s need)) v w1) (q5:(fun v w'=>v 5=v 4) v w1);intro bb hbb;obtain ⟨x,h5,_⟩:=q4;have o1:bb.eval (.tmp 51)=.tuple #[x,.int .i64 RE]:=by rw [<- h5,<- q5]; rw [hbb]; dsimp only; (try simp (discharger:=decide) only [eval_put_ne]); rw [Q0a (by simp only [size_put]; exact (by decide:51 < 164))]
   exact ⟨_,fun w=>Q9d (.tmp 51) 1 rfl o1 (fun w=>K0f w _ _),rfl⟩
  case g8=>
   intro v w1 hx (q0:v 0=_) _ (q2:v 2=_) (q3:v 3=_) _ _ _;intro bb hbb;have o1:bb.eval (.tmp 57)=v 6:=by rw [hbb]; dsimp only; (try simp (discharger:=decide) only [eval_put_ne]); rw [Q0a (by simp only [size_put]; exact (by decide:57 < 164))]
   exact ⟨_,fun w=>X8y (.tmp 57) rfl o1,rfl⟩
  case g9=>
   intro v w1 hx (q0:v 0=_) _ (q2:v 2=_) (q3:v 3=_) _ _ _ (q7:v 7=_) _;intro bb hbb;subst hbb;refine ⟨_,fun w=>?_,rfl⟩;go_simp
  case post =>
   intro v w1 hx (q0:v 0=_) (q1:(fun v w'=>Q0g w' (v 1) s) v w1) (q2:v 2=_) (q3:v 3=_) (q4:(fun v w'=>∃ x,v 4=.tuple #[x,.int .i64 RE] /\ Q1q w' x (Q2w s need)) v w1) (q5:(fun v w'=>v 5=v 4) v w1) (q6:(fun v w'=>v 4=.tuple #[v 6,.int .i64 RE]) v w1) (q7:v 7=_) (q8:(fun v w'=>v 8=v 6) v w1) (q9:v 9=_);simp only [Flow.All,Flow.acts,Act.put];go_simp;obtain ⟨xk,h5,hik⟩:=q4;replace q6:v 4=.tuple #[v 6,.int .i64 RE]:=q6;replace q8:v 8=v 6:=q8;rw [h5] at q6;simp only [Value.tuple.injEq,Array.mk.injEq,List.cons.injEq,and_true] at q6;obtain ⟨Xr,cr,rfl,-,-,-⟩:=hik.opened;obtain ⟨nr,ti⟩:∃ z,(Q2w s need).length=z:=⟨_,rfl⟩;rw [ti] at q6 hik
   (try rw [q8])
   rw [<- q6];clear ti h5;have Zq:=Vq.trans hx;replace Lq:=hid (Lq.out.trans Zq);replace uq:=hid (uq.out.ext Zq);replace H2:=hid (H2.out.ext Zq);replace Nj:=hid (Nj.out.ext Zq);replace HL:=hid (HL.out.ext Zq);replace HG:=hid (HG.out.ext Zq);replace KB:=hid (KB.out.ext Zq);replace KP:=hid (KP.out.ext Zq);replace KT:=hid (KT.out.ext Zq);replace KY:=hid (KY.out.ext Zq);replace FR:=hid (FR.out.ext Zq);replace FI:=hid (FI.out.ext Zq);have FG:=hid (hik);obtain ⟨z2,rfl⟩:∃ Z,Z=w1:=⟨_,rfl⟩;clear hx Vq Zq q0 q1 q2 q3 q5 q6 q7 q8 q9;clear hik;go_wp2_with fail;have Vq:=(Ext.refl z2).drew;refine Flow.Q1h [.w,.w,.w,.p,.w,.w,.p,.p] [0,1,2,3,4,5,6,7] [[],[0],[],[],[3],[1,2,4],[0,1,5],[0,1,2,3,4,5,6]]
    [.c 0 (.agg #[.int .i64 lim,.slice A T Uq,.slice B M Wq]),.c 1 (.int .i64 B0),.c 2 (.agg #[.int .i64 lim,.slice A T Uq,.slice B M Wq]),.c 3 (.pointer (some ⟨gc,0,none⟩)),.c 4 (.agg #[.slice R NR Gq]),.c 5 (.int .i64 E),.c 6 (.int .i64 B0),.c 7 (.int .i64 E)]
    (by kernel_rfl) rfl (by kernel_rfl) ⟨?g0,?g1,?g2,?g3,?g4,?g5,?g6,?g7,trivial⟩ ?post
   case g0 | g2=>
    intro v w1 hx;intro bb hbb;intro K2 jq;have o1:bb.eval (.tmp 2)=.pointer (some ⟨gs,0,none⟩):=fze12
    exact Q0i (.tmp 2) _ rfl Q9r Q6r o1 (KB.out.ext (Vq.trans hx)) rfl (jq _ _ (Ext.refl _) rfl)
   case g1=>
    intro v w1 hx;(repeat intro (zq:v _=_));intro bb hbb;subst hbb;intro K2 jq;go_simp;refine Q0d (Q6s w1 _ s (Mj.out _ (H2.out.ext (Vq.trans hx)))) ?_;rintro e w2 ⟨rfl,Mq⟩;exact ⟨_,rfl,jq _ _ Mq (congrArg (Value.int .i64) zX.out)⟩
   case g3=>
    intro v w1 hx;intro bb hbb;subst hbb;refine ⟨_,fun w=>?_,rfl⟩;go_simp
   case g4=>
    intro v w1 hx;(repeat intro (zq:v _=_));intro bb hbb;intro K hK;have o1:bb.eval (.tmp 62)=.pointer (some ⟨gc,0,none⟩):=by rw [hbb]; dsimp only; (try simp (discharger:=decide) only [eval_put_ne]); rw [Q0a (by simp only [size_put]; exact (by decide:62 < 164))]; assumption
    exact Q1m (.tmp 62) _ rfl X2l Q7r o1 (Q6h (KT.out.ext (Vq.trans hx))) rfl (hK _ _ (Ext.refl _) rfl)
   case g5=>
    intro v w1 hx;(repeat intro (zq:v _=_));intro bb hbb;subst hbb;intro K2 jq;go_simp;refine Q0d (X7j w1 _ _ s p (Mj.out _ (H2.out.ext (Vq.trans hx))) (Nw.out _ (Nj.out.ext (Vq.trans hx)))) ?_;rintro e w2 ⟨rfl,Mq⟩;exact ⟨_,rfl,jq _ _ Mq (congrArg (Value.int .i64) HE.out)⟩
   case g6 | g7=>
    intro v w1 hx;(repeat intro (zq:v _=_));intro bb hbb;subst hbb;refine ⟨_,fun w=>?_,rfl⟩;go_simp
   case post =>
    intro v w1 hx (q0:v 0=_) (q1:v 1=_) (q2:v 2=_) (q3:v 3=_) (q4:v 4=_) (q5:v 5=_) (q6:v 6=_) (q7:v 7=_);simp only [Flow.All,Flow.acts,Act.put];go_simp;have Zq:=Vq.trans hx;replace Lq:=hid (Lq.out.trans Zq);replace uq:=hid (uq.out.ext Zq);replace H2:=hid (H2.out.ext Zq);replace Nj:=hid (Nj.out.ext Zq);replace HL:=hid (HL.out.ext Zq);replace HG:=hid (HG.out.ext Zq);replace KB:=hid (KB.out.ext Zq);replace KP:=hid (KP.out.ext Zq);replace KT:=hid (KT.out.ext Zq);replace KY:=hid (KY.out.ext Zq);replace FR:=hid (FR.out.ext Zq);replace FI:=hid (FI.out.ext Zq);replace FG:=hid (FG.out.ext Zq);obtain ⟨z3,rfl⟩:∃ Z,Z=w1:=⟨_,rfl⟩;clear hx Vq Zq q0 q1 q2 q3 q4 q5 q6 q7;go_wp2_with fail;have Vq:=(Ext.refl z3).drew;refine Flow.Q1h [.p,.p,.w,.w,.w,.w,.p,.p,.w,.w,.w,.w,.p,.p] [0,1,2,3,4,5,6,7,8,9,10,11,12,13] [[],[],[1],[2],[0,3],[3,4],[],[],[7],[5,8],[6,9],[9,10],[0,1,2,3,4,5,11],[0,1,2,3,4,5,6,7,8,9,10,11,12]]
     [.c 0 (.int .i64 B0),.c 1 (.pointer (some ⟨gp,0,none⟩)),.c 2 (.int .i64 need),.c 3 (.int .i64 NE),⟨fun v wz=>(fun v w'=>Q0e w' (v 4) [B0,NE]) v wz,by intro v a b hx h; exact Q0e.ext h hx⟩,.c 5 (.int .i64 F0),.c 6 (.int .i64 B0),.c 7 (.pointer (some ⟨gp,0,none⟩)),.c 8 (.int .i64 need),.c 9 (.int .i64 NE),⟨fun v wz=>(fun v w'=>Q0e w' (v 10) [B0,NE]) v wz,by intro v a b hx h; exact Q0e.ext h hx⟩,.c 11 (.int .i64 F0),.c 12 (.int .i64 F0),.c 13 (.int .i64 F0)]
     (by kernel_rfl) rfl (by kernel_rfl) ⟨?g0,?g1,?g2,?g3,?g4,?g5,?g6,?g7,?g8,?g9,?g10,?g11,?g12,?g13,trivial⟩ ?post
    case g0 | g1 | g6 | g7=>
     intro v w1 hx;intro bb hbb;subst hbb;refine ⟨_,fun w=>?_,rfl⟩;go_simp
    case g2 | g8=>
     intro v w1 hx;(repeat intro (zq:v _=_));intro bb hbb;subst hbb;have n0:w1.cell? ⟨gp,0,none⟩=some (.int .i64 need):=(KP.out.ext (Vq.trans hx)).cell 0;intro K hK;go_simp;exact hK _ _ (Ext.refl _) rfl
    case g3 | g9=>
     intro v w1 hx;(repeat intro (zq:v _=_));intro bb hbb;subst hbb;intro K2 jq;go_simp;refine Q0d (X1z w1 need) ?_;rintro e w2 ⟨rfl,rfl⟩;exact ⟨_,rfl,jq _ _ (Ext.refl _) (congrArg (Value.int .i64) Zk.out)⟩
    case g4 | g10=>
     intro v w1 hx;(repeat intro (zq:v _=_));intro bb hbb;subst hbb;intro K hK;go_simp;exact hK _ _ (Ext.box _ _) (Q1v (l:=[B0,NE]) (by simp))
    case g5=>
     intro v w1 hx (q3:v 3=_) (q4:(fun v w'=>Q0e w' (v 4) [B0,NE]) v w1);intro bb hbb;subst hbb;intro K2 jq;go_simp;refine Q0d (X3x w1 _ [B0,NE] q4) ?_;rintro e w2 ⟨rfl,rfl⟩;exact ⟨_,rfl,jq _ _ (Ext.refl _) (congrArg (Value.int .i64) f9.out)⟩
    case g11=>
     intro v w1 hx (q9:v 9=_) (q10:(fun v w'=>Q0e w' (v 10) [B0,NE]) v w1);intro bb hbb;subst hbb;intro K2 jq;go_simp;refine Q0d (X3x w1 _ [B0,NE] q10) ?_;rintro e w2 ⟨rfl,rfl⟩;exact ⟨_,rfl,jq _ _ (Ext.refl _) (congrArg (Value.int .i64) f9.out)⟩
    case g12=>
     intro v w1 hx (q0:v 0=_) (q1:v 1=_) (q2:v 2=_) (q3:v 3=_) _ (q5:v 5=_) (q11:v 11=_);intro bb hbb;subst hbb;refine ⟨_,fun w=>?_,rfl⟩;go_simp
    case g13=>
     intro v w1 hx (q0:v 0=_) (q1:v 1=_) (q2:v 2=_) (q3:v 3=_) _ (q5:v 5=_) (q6:v 6=_) (q7:v 7=_) (q8:v 8=_) (q9:v 9=_) _ (q11:v 11=_) (q12:v 12=_);intro bb hbb;subst hbb;refine ⟨_,fun w=>?_,rfl⟩;go_simp
    case post =>
     intro v w1 hx (q0:v 0=_) (q1:v 1=_) (q2:v 2=_) (q3:v 3=_) (q4:(fun v w'=>Q0e w' (v 4) [B0,NE]) v w1) (q5:v 5=_) (q6:v 6=_) (q7:v 7=_) (q8:v 8=_) (q9:v 9=_) (q10:(fun v w'=>Q0e w' (v 10) [B0,NE]) v w1) (q11:v 11=_) (q12:v 12=_) (q13:v 13=_);simp only [Flow.All,Flow.acts,Act.put];go_simp;have Zq:=Vq.trans hx;replace Lq:=hid (Lq.out.trans Zq);replace uq:=hid (uq.out.ext Zq);replace H2:=hid (H2.out.ext Zq);replace Nj:=hid (Nj.out.ext Zq);replace HL:=hid (HL.out.ext Zq);replace HG:=hid (HG.out.ext Zq);replace KB:=hid (KB.out.ext Zq);replace KP:=hid (KP.out.ext Zq);replace KT:=hid (KT.out.ext Zq);replace KY:=hid (KY.out.ext Zq);replace FR:=hid (FR.out.ext Zq);replace FI:=hid (FI.out.ext Zq);replace FG:=hid (FG.out.ext Zq);obtain ⟨z4,rfl⟩:∃ Z,Z=w1:=⟨_,rfl⟩;clear hx Vq Zq q0 q1 q2 q3 q4 q5 q6 q7 q8 q9 q10 q11 q12 q13;go_upto_if 78 with fail;change Code.wp _ _ _ _ (z4.alloc (.cells #[.slice none 0 0] 47));obtain ⟨W,Nq,k0,Sq,eW⟩:=Q1y z4 47 #[.slice none 0 0];rw [Nq];clear Nq;obtain ⟨gn,L7⟩:∃ z,z4.heap.size=z:=⟨_,rfl⟩;have ek:=hid L7;rw [L7] at k0 eW ⊢;clear L7;have KN:=hid k0;clear k0
     go_cut [14] (fun x wx=>Q0e wx x (Q5c s p) /\ (∃ X c,Blk wx gn 47 #[.slice X nc c] /\ Q1d wx (.slice X nc c) (Q4f s p)) /\ Ext z4 wx)
     case first =>
      have dd:=Nj;have O3:=Sq.out;replace uq:=hid (uq.out.ext O3);replace H2:=hid (H2.out.ext O3);replace Nj:=hid (Nj.out.ext O3);replace HL:=hid (HL.out.ext O3);replace HG:=hid (HG.out.ext O3);replace KB:=hid (KB.out.ext O3);replace KP:=hid (KP.out.ext O3);replace KT:=hid (KT.out.ext O3);replace KY:=hid (KY.out.ext O3);replace FR:=hid (FR.out.ext O3);replace FI:=hid (FI.out.ext O3);replace FG:=hid (FG.out.ext O3);clear O3
      by_cases fx:E=0
      . skip
        have Jp:(E == 0)=true:=by simp [fx]
        obtain ⟨hV,Wz⟩:=Q5g (HE.out.trans fx);have HV:=hid hV;have G5:=hid Wz;have SX:=hid (Z9d (HE.out.trans fx));have Gp:Hid (p.length=nc):=hid (by rw [<- yJ.out,SX.out.2])
        clear hV Wz fx;obtain ⟨rfl,cd⟩:NR=nc /\ True:=by obtain ⟨R1,c1,e1,-⟩:=Nj.out.opened; injection e1 with e1 e2 e3; exact ⟨by rw [e2,Gp.out],trivial⟩
        clear cd;go_wp2_with fail;have Vq:=(Ext.refl W).drew;refine Flow.Q4h [.w,.p,.w,.w,.p,.w,.p,.last] [0,1,2,3,4,5,6,7] [[],[],[1],[0,1,2],[],[4],[0,1,2,3],[0,1,2,3,4,5,6]] [7]
         [.c 0 (.agg #[.int .i64 lim,.slice A T Uq,.slice B M Wq]),.c 1 (.pointer (some ⟨gc,0,none⟩)),.c 2 (.agg #[.slice R NR Gq]),⟨fun v wz=>(fun v w'=>Q0e w' (v 3) (Q2k s p)) v wz,by intro v a b hx h; exact Q0e.ext h hx⟩,.c 4 (.pointer (some ⟨gc,0,none⟩)),.c 5 (.agg #[.slice R NR Gq]),⟨fun v wz=>(fun v w'=>v 6=v 3) v wz,by intro v a b hx h; exact h⟩,.none]
         [fun v w1 w'=>Q0e w' (v 3) (Q2k s p) /\ Blk w' gn 47 #[.slice R NR Gq] /\ Below gn W w'] (by kernel_rfl) rfl (by kernel_rfl) ⟨?g0,?g1,?g2,?g3,?g4,?g5,?g6,?g7,trivial⟩ ?post
        case g0=>
         intro v w1 hx;intro bb hbb;intro K2 jq;have o1:bb.eval (.tmp 2)=.pointer (some ⟨gs,0,none⟩):=fze12
         exact Q0i (.tmp 2) _ rfl Q9r Q6r o1 (KB.out.ext (Vq.trans hx)) rfl (jq _ _ (Ext.refl _) rfl)
        case g1 | g4=>
         intro v w1 hx;intro bb hbb;subst hbb;refine ⟨_,fun w=>?_,rfl⟩;go_simp
        case g2=>
         intro v w1 hx;(repeat intro (zq:v _=_));intro bb hbb;intro K hK;have o1:bb.eval (.tmp 80)=.pointer (some ⟨gc,0,none⟩):=by rw [hbb]; dsimp only; (try simp (discharger:=decide) only [eval_put_ne]); rw [Q0a (by simp only [size_put]; exact (by decide:80 < 164))]; assumption
         exact Q1m (.tmp 80) _ rfl X2l Q7r o1 (Q6h (KT.out.ext (Vq.trans hx))) rfl (hK _ _ (Ext.refl _) rfl)
        case g3=>
         intro v w1 hx;(repeat intro (zq:v _=_));intro bb hbb;subst hbb;intro K2 jq;go_simp;refine Q0d (Y8w w1 _ _ s p (Mj.out _ (H2.out.ext (Vq.trans hx))) (Nw.out _ (Nj.out.ext (Vq.trans hx))) HV.out G5.out) ?_;rintro e w2 ⟨u,rfl,hu,Mq⟩;exact ⟨_,rfl,jq _ _ Mq hu⟩
        case g5=>
         intro v w1 hx;(repeat intro (zq:v _=_));intro bb hbb;intro K hK;have o1:bb.eval (.tmp 83)=.pointer (some ⟨gc,0,none⟩):=by rw [hbb]; dsimp only; (try simp (discharger:=decide) only [eval_put_ne]); rw [Q0a (by simp only [size_put]; exact (by decide:83 < 164))]; assumption
         exact Q1m (.tmp 83) _ rfl X2l Q7r o1 (Q6h (KT.out.ext (Vq.trans hx))) rfl (hK _ _ (Ext.refl _) rfl)
        case g6=>
         intro v w1 hx (q0:v 0=_) (q1:v 1=_) (q2:v 2=_) _;intro bb hbb;have o1:bb.eval (.tmp 82)=v 3:=by rw [hbb]; dsimp only; (try simp (discharger:=decide) only [eval_put_ne]); rw [Q0a (by simp only [size_put]; exact (by decide:82 < 164))]
         exact ⟨_,fun w=>X8y (.tmp 82) rfl o1,rfl⟩
        case g7=>
         intro v w1 hx (q0:v 0=_) (q1:v 1=_) (q2:v 2=_) (q3:(fun v w'=>Q0e w' (v 3) (Q2k s p)) v w1) (q4:v 4=_) (q5:v 5=_) _;intro wl hT;obtain rfl:wl=w1:=hT;intro bb hbb;intro K hK;have o1:bb.eval (.tmp 16)=.pointer (some ⟨gn,0,none⟩):=fze12
         have o2:bb.eval (.tmp 84)=.agg #[.slice R NR Gq]:=fzc12
         have h9:=KN.out.ext (Vq.trans hx);exact Q2i (.tmp 16) (.tmp 84) _ rfl Q7r o1 o2 h9 rfl rfl X8q (fun vv w' hb hl ho=>hK _ _ ⟨Y1a q3 h9 (fun k _ hk=>ho k hk),hb,Below.trans ((Vq.trans hx).mono (by have:=KN.out.lt; omega)) (hl gn (Nat.le_refl _))⟩)
        case post =>
         intro v w1 hx;(iterate 3 intro (zq:v _=_));intro (q3:(fun v w'=>Q0e w' (v 3) (Q2k s p)) v w1);(iterate 2 intro (zq:v _=_));intro (q6:(fun v w'=>v 6=v 3) v w1);intro w2 hE;replace hE:(fun v w1 w'=>Q0e w' (v 3) (Q2k s p) /\ Blk w' gn 47 #[.slice R NR Gq] /\ Below gn W w') v w1 w2:=hE;simp only [Flow.acts,Act.put];go_simp;obtain ⟨h3,A8,dq⟩:=hE;replace q6:v 6=v 3:=q6
         (try rw [q6])
         have Ze:Ext z4 w2:=Below.trans Sq.out (dq.mono (Nat.le_of_eq ek.out));have Uy:=hid h3;have N4:=hid A8;have Eb:=hid Ze;have Fp:Hid (Q1d w2 (.slice R NR Gq) p):=hid (dd.out.ext Ze);clear h3 A8 dq Ze hx Vq q3 q6;(repeat clear zq);obtain ⟨w5,rfl⟩:∃ Z,Z=w2:=⟨_,rfl⟩;go_wp2_with fail;go_meet;exact ⟨by rw [SX.out.1]; exact Uy.out,⟨_,_,N4.out,by rw [SX.out.2]; exact Fp.out⟩,Eb.out⟩
      . skip
        have Jp:(E == 0)=false:=by simp [fx]
        have SX:=hid (J4b (fun h=>fx (HE.out.symm.trans h)));have si:Hid (nc=0):=hid (by rw [<- yJ.out,SX.out.2]; rfl)
        clear fx;go_wp2_with fail;go_meet;exact ⟨by rw [SX.out.1]; exact Go.Tw.Rows.nil _ _ _,⟨_,_,by rw [si.out]; exact KN.out,by rw [si.out,SX.out.2]; exact Go.Tw.Rows.nil _ _ _⟩,Sq.out⟩
     case rest =>
      obtain ⟨RX,⟨Xn,cn,A8,ri⟩,hcut⟩:=hcut;replace Lq:=hid (Lq.out.trans hcut);replace uq:=hid (uq.out.ext hcut);replace H2:=hid (H2.out.ext hcut);replace Nj:=hid (Nj.out.ext hcut);replace HL:=hid (HL.out.ext hcut);replace HG:=hid (HG.out.ext hcut);replace KB:=hid (KB.out.ext hcut);replace KP:=hid (KP.out.ext hcut);replace KT:=hid (KT.out.ext hcut);replace KY:=hid (KY.out.ext hcut);replace FR:=hid (FR.out.ext hcut);replace FI:=hid (FI.out.ext hcut);replace FG:=hid (FG.out.ext hcut);obtain ⟨Xk,ck,DW,-,-,-⟩:=RX.opened;rw [BX.out] at DW;subst DW;obtain ⟨z5,rfl⟩:∃ X,X=wc:=⟨_,rfl⟩;have KN:=hid A8;have FN:=hid ri;have FK:=hid RX;clear hcut A8 ri RX Sq eW;go_upto_if 86 with fail
      go_cut [12,13,15] (fun x y z wx=>x=.int .i64 RE /\ y=.int .i64 TH /\ Q1q wx z (Q2w s need) /\ Ext z5 wx)
      case first =>
       have px:=hid (Ext.refl z5)
       by_cases hF:F0=0
       . skip
         have Ep:(F0 == 0)=true:=by simp [hF]
         have Ye:=hid (Pk.out.trans hF);have HV:=hid (Q0w.of (Q1n Ye.out).1);have M4:=hid (Z4d Ye.out);have rV:=hid (Y9h (g:=g) Ye.out);clear hF;have d0KB:=KB.out.cell 0;have d1KB:=KB.out.cell 1;have d2KB:=KB.out.cell 2;simp only [Go.Tw.gA,Go.Tw.gB,Go.Tw.gC] at d0KB d1KB d2KB;have d0KP:=KP.out.cell 0;have d1KP:=KP.out.cell 1;have d2KP:=KP.out.cell 2;have d3KP:=KP.out.cell 3;simp only [Go.Tw.gA,Go.Tw.gB,Go.Tw.gC] at d0KP d1KP d2KP d3KP;go_wp2_with fail;refine (Z3w _ _ s need (Mj.out _ H2.out) HV.out).mono ?_;rintro e z6 ⟨xr,rfl,hr,hx⟩;have Zq:Ext z5 z6:=hx;replace px:=hid (px.out.trans Zq);replace Lq:=hid (Lq.out.trans Zq);replace uq:=hid (uq.out.ext Zq);replace H2:=hid (H2.out.ext Zq);replace Nj:=hid (Nj.out.ext Zq);replace HL:=hid (HL.out.ext Zq);replace HG:=hid (HG.out.ext Zq);replace KB:=hid (KB.out.ext Zq);replace KP:=hid (KP.out.ext Zq);replace KT:=hid (KT.out.ext Zq);replace KY:=hid (KY.out.ext Zq);replace FR:=hid (FR.out.ext Zq);replace FI:=hid (FI.out.ext Zq);replace FG:=hid (FG.out.ext Zq);replace KN:=hid (KN.out.ext Zq);replace FN:=hid (FN.out.ext Zq);replace FK:=hid (FK.out.ext Zq);have FW:=hid (hr);clear hx Zq d0KB d1KB d2KB d0KP d1KP d2KP d3KP;clear hr;have d0KB:=KB.out.cell 0;have d1KB:=KB.out.cell 1;have d2KB:=KB.out.cell 2;simp only [Go.Tw.gA,Go.Tw.gB,Go.Tw.gC] at d0KB d1KB d2KB;have d0KP:=KP.out.cell 0;have d1KP:=KP.out.cell 1;have d2KP:=KP.out.cell 2;have d3KP:=KP.out.cell 3;simp only [Go.Tw.gA,Go.Tw.gB,Go.Tw.gC] at d0KP d1KP d2KP d3KP;go_wp2_with fail;refine (X5t _ _ _ s need g (Mj.out _ H2.out) HG.out HV.out).mono ?_;rintro e z7 ⟨rfl,hx⟩;have Zq:Ext z6 z7:=hx;replace px:=hid (px.out.trans Zq);replace Lq:=hid (Lq.out.trans Zq);replace uq:=hid (uq.out.ext Zq);replace H2:=hid (H2.out.ext Zq);replace Nj:=hid (Nj.out.ext Zq);replace HL:=hid (HL.out.ext Zq);replace HG:=hid (HG.out.ext Zq);replace KB:=hid (KB.out.ext Zq);replace KP:=hid (KP.out.ext Zq);replace KT:=hid (KT.out.ext Zq);replace KY:=hid (KY.out.ext Zq);replace FR:=hid (FR.out.ext Zq);replace FI:=hid (FI.out.ext Zq);replace FG:=hid (FG.out.ext Zq);replace KN:=hid (KN.out.ext Zq);replace FN:=hid (FN.out.ext Zq);replace FK:=hid (FK.out.ext Zq);replace FW:=hid (FW.out.ext Zq);clear hx Zq d0KB d1KB d2KB d0KP d1KP d2KP d3KP;go_wp2_with fail;go_meet;exact ⟨by rw [<- Vv.out,M4.out.1],by rw [<- gd.out,rV.out],by rw [M4.out.2]; exact FW.out,px.out⟩
       . skip
         have Ep:(F0 == 0)=false:=by simp [hF]
         have Xe:¬ Q0h [s.err,Q0f need 0 8000]=0:=fun h=>hF (Pk.out.symm.trans h);have M4:=hid (Z8b Xe);have rV:=hid (Z2f (g:=g) Xe);clear hF Xe;go_wp2_with fail;go_meet;exact ⟨by rw [<- Vv.out,M4.out.1,Pk.out],by rw [<- gd.out,rV.out,Pk.out],by rw [M4.out.2]; exact Go.Tw.Rows.nil _ _ _,px.out⟩
      case rest =>
       obtain ⟨rfl,rfl,QX,hcut⟩:=hcut;replace Lq:=hid (Lq.out.trans hcut);replace uq:=hid (uq.out.ext hcut);replace H2:=hid (H2.out.ext hcut);replace Nj:=hid (Nj.out.ext hcut);replace HL:=hid (HL.out.ext hcut);replace HG:=hid (HG.out.ext hcut);replace KB:=hid (KB.out.ext hcut);replace KP:=hid (KP.out.ext hcut);replace KT:=hid (KT.out.ext hcut);replace KY:=hid (KY.out.ext hcut);replace FR:=hid (FR.out.ext hcut);replace FI:=hid (FI.out.ext hcut);replace FG:=hid (FG.out.ext hcut);replace KN:=hid (KN.out.ext hcut);replace FN:=hid (FN.out.ext hcut);replace FK:=hid (FK.out.ext hcut);obtain ⟨Xw,cw,CW,-,-,-⟩:=QX.opened;obtain ⟨nw,hnw⟩:∃ z,(Q2w s need).length=z:=⟨_,rfl⟩;rw [hnw] at CW;subst CW;obtain ⟨z6,rfl⟩:∃ X,X=wc:=⟨_,rfl⟩;have FW:=hid QX;clear hcut QX hnw;have We:=hid (J1w (Q4f s p));have Ve:=hid (J0o (Q2w s need));have Dp:Hid (∀ W,Q1d W (.slice Xc nc cc) (Q4f s p) -> Q0m W (.agg #[.slice Xc nc cc]) (Q4f s p)):=hid (fun W h=>⟨_,rfl,h⟩);have Ec:Hid (∀ W,Q1d W (.slice Xn nc cn) (Q4f s p) -> Q0m W (.agg #[.slice Xn nc cn]) (Q4f s p)):=hid (fun W h=>⟨_,rfl,h⟩);have Yz:Hid ((Q4f s p).length <= 4096):=hid (J0d jd.out);have ik:Hid ((Q2w s need).length <= 4096):=hid (Z3c s need);go_wp2_with fail;have Vq:=(Ext.refl z6).drew;refine Flow.Q1h [.p,.w,.w,.w,.w,.p,.p,.p,.w,.p,.w,.p,.p,.p,.p,.p,.p,.p,.p,.p,.w,.p,.w,.p,.p,.p,.p,.p,.p,.p] [0,1,2,3,4,5,6,7,8,9,10,11,12,13,14,15,16,17,18,19,20,21,22,23,24,25,26,27,28,29] [[],[0],[1],[],[2,3],[4],[4,5],[6],[6,7],[6],[6,8,9],[6,10],[6,11],[10,12],[13],[13],[13,14,15],[13,16],[13,17],[18],[18,19],[18],[18,20,21],[18,22],[18,23],[22,24],[25],[25],[25,26,27],[25,28]]
        [.c 0 (.pointer (some ⟨gy,0,none⟩)),.c 1 (.agg #[.slice Xc nc cc]),⟨fun v wz=>(fun v w'=>Q0m w' (v 2) (Q4f s p)) v wz,by intro v a b hx h; exact Q0m.ext h hx⟩,.c 3 (.agg #[.slice Xn nc cn]),.c 4 (.bool true),.c 5 (.bool false),.c 6 (.bool false),.c 7 (.pointer (some ⟨gy,1,none⟩)),.c 8 (.slice Yc mc dc),.c 9 (.slice Xk mc ck),.c 10 (.bool true),.c 11 (.bool false),.c 12 (.bool false),.c 13 (.bool false),.c 14 (.int .i64 E),.c 15 (.int .i64 E),.c 16 (.bool false),.c 17 (.bool false),.c 18 (.bool false),.c 19 (.slice Xr nr cr),⟨fun v wz=>(fun v w'=>Q1q w' (v 20) (Q2w s need)) v wz,by intro v a b hx h; exact Q1q.ext h hx⟩,.c 21 (.slice Xw nw cw),.c 22 (.bool true),.c 23 (.bool false),.c 24 (.bool false),.c 25 (.bool false),.c 26 (.int .i64 RE),.c 27 (.int .i64 RE),.c 28 (.bool false),.c 29 (.bool false)]
        (by kernel_rfl) rfl (by kernel_rfl) ⟨?g0,?g1,?g2,?g3,?g4,?g5,?g6,?g7,?g8,?g9,?g10,?g11,?g12,?g13,?g14,?g15,?g16,?g17,?g18,?g19,?g20,?g21,?g22,?g23,?g24,?g25,?g26,?g27,?g28,?g29,trivial⟩ ?post
       case g0=>
        intro v w1 hx;intro bb hbb;subst hbb;refine ⟨_,fun w=>?_,rfl⟩;go_simp
       case g1=>
        intro v w1 hx;(repeat intro (zq:v _=_));intro bb hbb;intro K hK;have o1:bb.eval (.tmp 100)=.pointer (some ⟨gy,0,none⟩):=by rw [hbb]; dsimp only; (try simp (discharger:=decide) only [eval_put_ne]); rw [Q0a (by exact (by decide:100 < 164))]; assumption
        exact Q1m (.tmp 100) _ rfl Q6t Q4b o1 (Q6h (KY.out.ext (Vq.trans hx))) rfl (hK _ _ (Ext.refl _) rfl)
       case g2=>
        intro v w1 hx;(repeat intro (zq:v _=_));intro bb hbb;subst hbb;intro K2 jq;go_simp;refine Q0d (Y5b w1 _ (Q4f s p) (Dp.out _ (FR.out.ext (Vq.trans hx))) Yz.out) ?_;rintro e w2 ⟨u,rfl,hu,Mq⟩;exact ⟨_,rfl,jq _ _ Mq hu⟩
       case g3=>
        intro v w1 hx;intro bb hbb;intro K2 jq;have o1:bb.eval (.tmp 16)=.pointer (some ⟨gn,0,none⟩):=fze12
        exact Q0i (.tmp 16) _ rfl X2l Q7r o1 (KN.out.ext (Vq.trans hx)) rfl (jq _ _ (Ext.refl _) rfl)
       case g4=>
        intro v w1 hx (q2:(fun v w'=>Q0m w' (v 2) (Q4f s p)) v w1) (q3:v 3=_);intro bb hbb;subst hbb;intro K2 jq;go_simp;refine Q0d (X2j w1 _ _ _ _ q2 (Ec.out _ (FN.out.ext (Vq.trans hx)))) ?_;rintro e w2 ⟨rfl,Mq⟩;exact ⟨_,rfl,jq _ _ Mq (congrArg Value.bool We.out)⟩
       case g5 | g6 | g12 | g13 | g17 | g18 | g24 | g25 | g29=>
        intro v w1 hx;(repeat intro (zq:v _=_));intro bb hbb;subst hbb;refine ⟨_,fun w=>?_,rfl⟩;go_simp
       case g7 | g9 | g11=>
        intro v w1 hx;(repeat intro (zq:v _=_));intro bb hbb;refine Flow.Q0j (d:=106) rfl rfl fzb12 fzc12 ?_
        subst hbb;refine ⟨_,fun w=>?_,rfl⟩;go_simp
       case g8=>
        intro v w1 hx;(repeat intro (zq:v _=_));intro bb hbb;refine Flow.Q0j (d:=106) rfl rfl fzb12 fzc12 ?_
        subst hbb;have n0:w1.cell? ⟨gy,1,none⟩=some (.slice Yc mc dc):=(KY.out.ext (Vq.trans hx)).cell 1;intro K hK;go_simp;exact hK _ _ (Ext.refl _) rfl
       case g10=>
        intro v w1 hx;(repeat intro (zq:v _=_));intro bb hbb;refine Flow.Q0j (d:=106) rfl rfl fzb12 fzc12 ?_
        subst hbb;intro K2 jq;go_simp;refine Q0d (Q3k w1 _ _ _ _ (FI.out.ext (Vq.trans hx)) (FK.out.ext (Vq.trans hx))) ?_;rintro e w2 ⟨rfl,Mq⟩;exact ⟨_,rfl,jq _ _ Mq (congrArg Value.bool (decide_eq_true rfl))⟩
       case g14 | g15 | g16=>
        intro v w1 hx;(repeat intro (zq:v _=_));intro bb hbb;refine Flow.Q0j (d:=113) rfl rfl fzb12 fzc12 ?_
        subst hbb;refine ⟨_,fun w=>?_,rfl⟩;go_simp
       case g19 | g21 | g23=>
        intro v w1 hx;(repeat intro (zq:v _=_));intro bb hbb;refine Flow.Q0j (d:=118) rfl rfl fzb12 fzc12 ?_
        subst hbb;refine ⟨_,fun w=>?_,rfl⟩;go_simp
       case g20=>
        intro v w1 hx;(repeat intro (zq:v _=_));intro bb hbb;refine Flow.Q0j (d:=118) rfl rfl fzb12 fzc12 ?_
        subst hbb;intro K2 jq;go_simp;refine Q0d (Y0n w1 _ _ (FG.out.ext (Vq.trans hx)) ik.out) ?_;rintro e w2 ⟨u,rfl,hu,Mq⟩;exact ⟨_,rfl,jq _ _ Mq hu⟩
       case g22=>
        intro v w1 hx (q18:v 18=_) (q20:(fun v w'=>Q1q w' (v 20) (Q2w s need)) v w1) (q21:v 21=_);intro bb hbb;refine Flow.Q0j (d:=118) rfl rfl fzb12 (by rw [hbb]; dsimp only; (try simp (discharger:=decide) only [eval_put_ne]); rw [Q0a (by simp only [size_put]; exact (by decide:118 < 164))]; exact q18) ?_
        subst hbb;intro K2 jq;go_simp;refine Q0d (Q8i w1 _ _ _ _ q20 (FW.out.ext (Vq.trans hx))) ?_;rintro e w2 ⟨rfl,Mq⟩;exact ⟨_,rfl,jq _ _ Mq (congrArg Value.bool Ve.out)⟩
       case g26 | g27 | g28=>
        intro v w1 hx;(repeat intro (zq:v _=_));intro bb hbb;refine Flow.Q0j (d:=125) rfl rfl fzb12 fzc12 ?_
        subst hbb;refine ⟨_,fun w=>?_,rfl⟩;go_simp
       case post =>
        intro v w1 hx (q0:v 0=_) (q1:v 1=_) (q2:(fun v w'=>Q0m w' (v 2) (Q4f s p)) v w1) (q3:v 3=_) (q4:v 4=_) (q5:v 5=_) (q6:v 6=_) (q7:v 7=_) (q8:v 8=_) (q9:v 9=_) (q10:v 10=_) (q11:v 11=_) (q12:v 12=_) (q13:v 13=_) (q14:v 14=_) (q15:v 15=_) (q16:v 16=_) (q17:v 17=_) (q18:v 18=_) (q19:v 19=_) (q20:(fun v w'=>Q1q w' (v 20) (Q2w s need)) v w1) (q21:v 21=_) (q22:v 22=_);(iterate 7 intro (zq:v _=_));simp only [Flow.All,Flow.acts,Act.put];go_simp;have Zq:=Vq.trans hx;replace Lq:=hid (Lq.out.trans Zq);replace uq:=hid (uq.out.ext Zq);replace H2:=hid (H2.out.ext Zq);replace Nj:=hid (Nj.out.ext Zq);replace HL:=hid (HL.out.ext Zq);replace HG:=hid (HG.out.ext Zq);replace KB:=hid (KB.out.ext Zq);replace KP:=hid (KP.out.ext Zq);replace KT:=hid (KT.out.ext Zq);replace KY:=hid (KY.out.ext Zq);replace FR:=hid (FR.out.ext Zq);replace FI:=hid (FI.out.ext Zq);replace FG:=hid (FG.out.ext Zq);replace KN:=hid (KN.out.ext Zq);replace FN:=hid (FN.out.ext Zq);replace FK:=hid (FK.out.ext Zq);replace FW:=hid (FW.out.ext Zq);obtain ⟨z7,rfl⟩:∃ Z,Z=w1:=⟨_,rfl⟩;clear hx Vq Zq q0 q1 q2 q3 q4 q5 q6 q7 q8 q9 q10 q11 q12 q13 q14 q15 q16 q17 q18 q19 q20 q21 q22;(repeat clear zq);go_wp2_with fail;have Vq:=(Ext.refl z7).drew;refine Flow.Q1h [.w,.w,.p,.w,.p,.w,.w,.p,.w,.w,.p,.w,.p] [0,1,2,3,4,5,6,7,8,9,10,11,12] [[],[0],[],[2],[],[4],[1,5],[],[7],[6,8],[6,9],[1,3,9,10],[0,1,2,3,4,5,6,7,8,9,10,11]]
         [.c 0 (.agg #[.int .i64 lim,.slice A T Uq,.slice B M Wq]),⟨fun v wz=>(fun v w'=>Q0g w' (v 1) s) v wz,by intro v a b hx h; exact Q0g.ext h hx⟩,.c 2 (.pointer (some ⟨gp,0,none⟩)),.c 3 (.int .i64 need),.c 4 (.pointer (some ⟨gc,0,none⟩)),.c 5 (.agg #[.slice R NR Gq]),⟨fun v wz=>(fun v w'=>∃ X c,v 6=.agg #[.slice X p.length c] /\ Q1d w' (.slice X p.length c) p) v wz,by rintro v a b hx ⟨X,c,h1,h2⟩; exact ⟨X,c,h1,h2.ext hx⟩⟩,.c 7 (.pointer (some ⟨gc,1,none⟩)),.c 8 (.slice L NL ej),⟨fun v wz=>(fun v w'=>∃ X c,v 9=.slice X l.length c /\ Q0e w' (.slice X l.length c) l) v wz,by rintro v a b hx ⟨X,c,h1,h2⟩; exact ⟨X,c,h1,h2.ext hx⟩⟩,⟨fun v wz=>(fun v w'=>∃ X c Y d,v 10=.agg #[.slice X p.length c,.slice Y l.length d] /\ Q1d w' (.slice X p.length c) p /\ Q0e w' (.slice Y l.length d) l) v wz,by rintro v a b hx ⟨X,c,Y,d,h1,h2,h3⟩; exact ⟨X,c,Y,d,h1,h2.ext hx,h3.ext hx⟩⟩,.c 11 (.int .i64 CE),.c 12 (.int .i64 CE)]
         (by kernel_rfl) rfl (by kernel_rfl) ⟨?g0,?g1,?g2,?g3,?g4,?g5,?g6,?g7,?g8,?g9,?g10,?g11,?g12,trivial⟩ ?post
        case g0=>
         intro v w1 hx;intro bb hbb;intro K2 jq;have o1:bb.eval (.tmp 2)=.pointer (some ⟨gs,0,none⟩):=fze12
         exact Q0i (.tmp 2) _ rfl Q9r Q6r o1 (KB.out.ext (Vq.trans hx)) rfl (jq _ _ (Ext.refl _) rfl)
        case g1=>
         intro v w1 hx;(repeat intro (zq:v _=_));intro bb hbb;subst hbb;intro K2 jq;go_simp;refine Q0d (X4q w1 _ s (Mj.out _ (H2.out.ext (Vq.trans hx))) HS.out) ?_;rintro e w2 ⟨u,rfl,hu,Mq⟩;exact ⟨_,rfl,jq _ _ Mq hu⟩
        case g2 | g4 | g7=>
         intro v w1 hx;intro bb hbb;subst hbb;refine ⟨_,fun w=>?_,rfl⟩;go_simp
        case g3 | g8=>
         intro v w1 hx;(repeat intro (zq:v _=_));intro bb hbb;subst hbb;have n0:w1.cell? ⟨gp,0,none⟩=some (.int .i64 need):=(KP.out.ext (Vq.trans hx)).cell 0;have n1:w1.cell? ⟨gc,1,none⟩=some (.slice L NL ej):=(KT.out.ext (Vq.trans hx)).cell 1;intro K hK;go_simp;exact hK _ _ (Ext.refl _) rfl
        case g5=>
         intro v w1 hx;(repeat intro (zq:v _=_));intro bb hbb;intro K hK;have o1:bb.eval (.tmp 134)=.pointer (some ⟨gc,0,none⟩):=by rw [hbb]; dsimp only; (try simp (discharger:=decide) only [eval_put_ne]); rw [Q0a (by simp only [size_put]; exact (by decide:134 < 164))]; assumption
         exact Q1m (.tmp 134) _ rfl X2l Q7r o1 (Q6h (KT.out.ext (Vq.trans hx))) rfl (hK _ _ (Ext.refl _) rfl)
        case g6=>
         intro v w1 hx _ (q5:v 5=_);intro bb hbb;subst hbb;intro K2 jq;go_simp;refine Q0d (J2c w1 _ p (Nw.out _ (Nj.out.ext (Vq.trans hx))) jd.out lV.out) ?_;rintro e w2 ⟨u,rfl,⟨ru,rfl,Bv⟩,Mq⟩;obtain ⟨Xu,cu,rfl,-,-,-⟩:=Bv.opened;exact ⟨_,rfl,jq _ _ Mq ⟨_,_,rfl,Bv⟩⟩
        case g9=>
         intro v w1 hx _ (q8:v 8=_);intro bb hbb;subst hbb;intro K2 jq;go_simp;refine Q0d (Q7s w1 _ l (HL.out.ext (Vq.trans hx)) (by have:=d9.out; omega)) ?_
         rintro e w2 ⟨u,rfl,hu,Mq⟩;have Lv:=hu.ints (by have:=d9.out; omega)
         obtain ⟨Xu,cu,rfl,-,-,-⟩:=Lv.opened;exact ⟨_,rfl,jq _ _ Mq ⟨_,_,rfl,Lv⟩⟩
        case g10=>
         intro v w1 hx (q6:(fun v w'=>∃ X c,v 6=.agg #[.slice X p.length c] /\ Q1d w' (.slice X p.length c) p) v w1) (q9:(fun v w'=>∃ X c,v 9=.slice X l.length c /\ Q0e w' (.slice X l.length c) l) v w1);intro bb hbb;obtain ⟨X6,c6,e6,h6⟩:=q6;obtain ⟨X9,c9,e9,h9⟩:=q9;have o1:bb.eval (.tmp 136)=.agg #[.slice X6 p.length c6]:=by rw [hbb]; dsimp only; (try simp (discharger:=decide) only [eval_put_ne]); rw [Q0a (by simp only [size_put]; exact (by decide:136 < 164))]; exact e6
         have o2:bb.eval (.tmp 139)=.slice X9 l.length c9:=by rw [hbb]; dsimp only; (try simp (discharger:=decide) only [eval_put_ne]); rw [Q0a (by simp only [size_put]; exact (by decide:139 < 164))]; exact e9
         exact ⟨_,fun w=>X1r _ (.tmp 136) (.tmp 139) rfl o1 o2 (fun w=>Y9r w _ _ _ _ _ _),⟨_,_,_,_,rfl,h6,h9⟩⟩
        case g11=>
         intro v w1 hx (q1:(fun v w'=>Q0g w' (v 1) s) v w1) (q3:v 3=_) _ (q10:(fun v w'=>∃ X c Y d,v 10=.agg #[.slice X p.length c,.slice Y l.length d] /\ Q1d w' (.slice X p.length c) p /\ Q0e w' (.slice Y l.length d) l) v w1);intro bb hbb;intro K2 jq;obtain ⟨X6,c6,X9,c9,e10,h6,h9⟩:=q10;have o3:bb.eval (.tmp 140)=.agg #[.slice X6 p.length c6,.slice X9 l.length c9]:=by rw [hbb]; dsimp only; (try simp (discharger:=decide) only [eval_put_ne]); rw [Q0a (by simp only [size_put]; exact (by decide:140 < 164))]; exact e10
         have o2:bb.eval (.tmp 133)=.int .i64 need:=fzc12
         have o1:bb.eval (.tmp 131)=v 1:=by rw [hbb]; dsimp only; (try simp (discharger:=decide) only [eval_put_ne]); rw [Q0a (by simp only [size_put]; exact (by decide:131 < 164))]
         refine X3c rfl (enters_of func76 (by kernel_rfl) rfl) o1 o2 o3 (Y2x w1 _ _ _ s need p l q1 h6 h9 HS.out Gk.out) ?_
         rintro e w2 ⟨rfl,Mq⟩;exact ⟨_,rfl,jq _ _ Mq (congrArg (Value.int .i64) qz.out)⟩
        case g12=>
         intro v w1 hx (q0:v 0=_) _ (q2:v 2=_) (q3:v 3=_) (q4:v 4=_) (q5:v 5=_) _ (q7:v 7=_) (q8:v 8=_) _ _ (q11:v 11=_);intro bb hbb;subst hbb;refine ⟨_,fun w=>?_,rfl⟩;go_simp
        case post =>
         intro v w1 hx (q0:v 0=_) (q1:(fun v w'=>Q0g w' (v 1) s) v w1) (q2:v 2=_) (q3:v 3=_) (q4:v 4=_) (q5:v 5=_) (q6:(fun v w'=>∃ X c,v 6=.agg #[.slice X p.length c] /\ Q1d w' (.slice X p.length c) p) v w1) (q7:v 7=_) (q8:v 8=_) (q9:(fun v w'=>∃ X c,v 9=.slice X l.length c /\ Q0e w' (.slice X l.length c) l) v w1) (q10:(fun v w'=>∃ X c Y d,v 10=.agg #[.slice X p.length c,.slice Y l.length d] /\ Q1d w' (.slice X p.length c) p /\ Q0e w' (.slice Y l.length d) l) v w1) (q11:v 11=_) (q12:v 12=_);simp only [Flow.All,Flow.acts,Act.put];go_simp;have Zq:=Vq.trans hx;replace Lq:=hid (Lq.out.trans Zq);replace uq:=hid (uq.out.ext Zq);replace H2:=hid (H2.out.ext Zq);replace Nj:=hid (Nj.out.ext Zq);replace HL:=hid (HL.out.ext Zq);replace HG:=hid (HG.out.ext Zq);replace KB:=hid (KB.out.ext Zq);replace KP:=hid (KP.out.ext Zq);replace KT:=hid (KT.out.ext Zq);replace KY:=hid (KY.out.ext Zq);replace FR:=hid (FR.out.ext Zq);replace FI:=hid (FI.out.ext Zq);replace FG:=hid (FG.out.ext Zq);replace KN:=hid (KN.out.ext Zq);replace FN:=hid (FN.out.ext Zq);replace FK:=hid (FK.out.ext Zq);replace FW:=hid (FW.out.ext Zq);obtain ⟨z8,rfl⟩:∃ Z,Z=w1:=⟨_,rfl⟩;clear hx Vq Zq q0 q1 q2 q3 q4 q5 q6 q7 q8 q9 q10 q11 q12;go_wp2_with fail;have Vq:=(Ext.refl z8).drew;refine Flow.Q1h [.p,.w,.p,.w,.w,.w,.p,.p,.w,.w,.p,.w,.p,.w,.w,.w,.p,.p,.p,.p,.w,.p,.p] [0,1,2,3,4,5,6,7,8,9,10,11,12,13,14,15,16,17,18,19,20,21,22] [[],[],[],[2],[],[1,3,4],[0,5],[5,6],[7],[7,8],[7],[7,10],[7],[7,12],[7,9,13],[7,9,11,14],[7],[7,15,16],[7,17],[15,18],[19],[19,20],[0,1,2,3,4,5,6,7,8,9,10,11,12,13,14,15,16,17,18,19,20,21]]
          [.c 0 (.int .i64 CE),.c 1 (.agg #[.int .i64 lim,.slice A T Uq,.slice B M Wq]),.c 2 (.pointer (some ⟨gp,0,none⟩)),.c 3 (.int .i64 need),.c 4 (.agg #[.slice R NR Gq,.slice L NL ej]),.c 5 (.int .i64 CE),.c 6 (.bool true),.c 7 (.bool true),.c 8 (.agg #[.int .i64 lim,.slice A T Uq,.slice B M Wq]),⟨fun v wz=>(fun v w'=>Q0g w' (v 9) s) v wz,by intro v a b hx h; exact Q0g.ext h hx⟩,.c 10 (.pointer (some ⟨gp,0,none⟩)),.c 11 (.int .i64 need),.c 12 (.pointer (some ⟨gp,3,none⟩)),.c 13 (.slice X NG og),⟨fun v wz=>(fun v w'=>Q1q w' (v 14) g) v wz,by intro v a b hx h; exact Q1q.ext h hx⟩,.c 15 (.int .i64 TH),.c 16 (.int .i64 TH),.c 17 (.bool true),.c 18 (.bool true),.c 19 (.bool true),.c 20 (.bool true),.c 21 (.bool true),.c 22 (.bool true)]
          (by kernel_rfl) rfl (by kernel_rfl) ⟨?g0,?g1,?g2,?g3,?g4,?g5,?g6,?g7,?g8,?g9,?g10,?g11,?g12,?g13,?g14,?g15,?g16,?g17,?g18,?g19,?g20,?g21,?g22,trivial⟩ ?post
         case g0 | g2=>
          intro v w1 hx;intro bb hbb;subst hbb;refine ⟨_,fun w=>?_,rfl⟩;go_simp
         case g1=>
          intro v w1 hx;intro bb hbb;intro K2 jq;have o1:bb.eval (.tmp 2)=.pointer (some ⟨gs,0,none⟩):=fze12
          exact Q0i (.tmp 2) _ rfl Q9r Q6r o1 (KB.out.ext (Vq.trans hx)) rfl (jq _ _ (Ext.refl _) rfl)
         case g3=>
          intro v w1 hx;(repeat intro (zq:v _=_));intro bb hbb;subst hbb;have n0:w1.cell? ⟨gp,0,none⟩=some (.int .i64 need):=(KP.out.ext (Vq.trans hx)).cell 0;intro K hK;go_simp;exact hK _ _ (Ext.refl _) rfl
         case g4=>
          intro v w1 hx;intro bb hbb;intro K2 jq;have o1:bb.eval (.tmp 5)=.pointer (some ⟨gc,0,none⟩):=fze12
          exact Q0i (.tmp 5) _ rfl J9i J8h o1 (KT.out.ext (Vq.trans hx)) rfl (jq _ _ (Ext.refl _) rfl)
         case g5=>
          intro v w1 hx;(repeat intro (zq:v _=_));intro bb hbb;subst hbb;intro K2 jq;go_simp;refine Q0d (Y2e w1 _ _ _ s need p l (Mj.out _ (H2.out.ext (Vq.trans hx))) (Nj.out.ext (Vq.trans hx)) (HL.out.ext (Vq.trans hx))) ?_;rintro e w2 ⟨rfl,Mq⟩;exact ⟨_,rfl,jq _ _ Mq (congrArg (Value.int .i64) qz.out)⟩
         case g6 | g7 | g18 | g19 | g21=>
          intro v w1 hx;(repeat intro (zq:v _=_));intro bb hbb;subst hbb;refine ⟨_,fun w=>?_,rfl⟩;go_simp
         case g8=>
          intro v w1 hx;(repeat intro (zq:v _=_));intro bb hbb;refine Flow.Q0j (d:=149) rfl rfl fzb12 fzc12 ?_
          intro K2 jq;have o1:bb.eval (.tmp 2)=.pointer (some ⟨gs,0,none⟩):=fze12
          exact Q0i (.tmp 2) _ rfl Q9r Q6r o1 (KB.out.ext (Vq.trans hx)) rfl (jq _ _ (Ext.refl _) rfl)
         case g9=>
          intro v w1 hx;(repeat intro (zq:v _=_));intro bb hbb;refine Flow.Q0j (d:=149) rfl rfl fzb12 fzc12 ?_
          subst hbb;intro K2 jq;go_simp;refine Q0d (X4q w1 _ s (Mj.out _ (H2.out.ext (Vq.trans hx))) HS.out) ?_;rintro e w2 ⟨u,rfl,hu,Mq⟩;exact ⟨_,rfl,jq _ _ Mq hu⟩
         case g10 | g12 | g16 | g17=>
          intro v w1 hx;(repeat intro (zq:v _=_));intro bb hbb;refine Flow.Q0j (d:=149) rfl rfl fzb12 fzc12 ?_
          subst hbb;refine ⟨_,fun w=>?_,rfl⟩;go_simp
         case g11 | g13=>
          intro v w1 hx;(repeat intro (zq:v _=_));intro bb hbb;refine Flow.Q0j (d:=149) rfl rfl fzb12 fzc12 ?_
          subst hbb;have n0:w1.cell? ⟨gp,0,none⟩=some (.int .i64 need):=(KP.out.ext (Vq.trans hx)).cell 0;have n1:w1.cell? ⟨gp,3,none⟩=some (.slice X NG og):=(KP.out.ext (Vq.trans hx)).cell 3;intro K hK;go_simp;exact hK _ _ (Ext.refl _) rfl
         case g14=>
          intro v w1 hx (q7:v 7=_) _ (q13:v 13=_);intro bb hbb;refine Flow.Q0j (d:=149) rfl rfl fzb12 (fzc12) ?_
          subst hbb;intro K2 jq;go_simp;refine Q0d (Z2p w1 _ g (HG.out.ext (Vq.trans hx)) Q0.out.1 Q0.out.2) ?_;rintro e w2 ⟨u,rfl,hu,Mq⟩;exact ⟨_,rfl,jq _ _ Mq hu⟩
         case g15=>
          intro v w1 hx (q7:v 7=_) (q9:(fun v w'=>Q0g w' (v 9) s) v w1) (q11:v 11=_) (q14:(fun v w'=>Q1q w' (v 14) g) v w1);intro bb hbb;refine Flow.Q0j (d:=149) rfl rfl fzb12 (fzc12) ?_
          subst hbb;intro K2 jq;go_simp;refine Q0d (X5m w1 _ _ s need g q9 q14 HS.out) ?_;rintro e w2 ⟨rfl,Mq⟩;exact ⟨_,rfl,jq _ _ Mq (congrArg (Value.int .i64) gd.out)⟩
         case g20=>
          intro v w1 hx;(repeat intro (zq:v _=_));intro bb hbb;refine Flow.Q0j (d:=161) rfl rfl fzb12 fzc12 ?_
          subst hbb;intro K2 jq;go_simp;refine Q0d (X0j w1 (uq.out.ext (Vq.trans hx))) ?_;rintro e w2 ⟨rfl,Mq⟩;exact ⟨_,rfl,jq _ _ Mq rfl⟩
         case g22=>
          intro v w1 hx (q0:v 0=_) (q1:v 1=_) (q2:v 2=_) (q3:v 3=_) (q4:v 4=_) (q5:v 5=_) (q6:v 6=_) (q7:v 7=_) (q8:v 8=_) _ (q10:v 10=_) (q11:v 11=_) (q12:v 12=_) (q13:v 13=_) _ (q15:v 15=_) (q16:v 16=_) (q17:v 17=_) (q18:v 18=_) (q19:v 19=_) (q20:v 20=_) (q21:v 21=_);intro bb hbb;subst hbb;refine ⟨_,fun w=>?_,rfl⟩;go_simp
         case post =>
          intro v w1 hx;(iterate 9 intro (zq:v _=_));intro (q9:(fun v w'=>Q0g w' (v 9) s) v w1);(iterate 4 intro (zq:v _=_));intro (q14:(fun v w'=>Q1q w' (v 14) g) v w1);(iterate 8 intro (zq:v _=_));simp only [Flow.All,Flow.acts,Act.put];go_simp;have Zq:=Vq.trans hx;replace Lq:=hid (Lq.out.trans Zq);replace uq:=hid (uq.out.ext Zq);replace H2:=hid (H2.out.ext Zq);replace Nj:=hid (Nj.out.ext Zq);replace HL:=hid (HL.out.ext Zq);replace HG:=hid (HG.out.ext Zq);replace KB:=hid (KB.out.ext Zq);replace KP:=hid (KP.out.ext Zq);replace KT:=hid (KT.out.ext Zq);replace KY:=hid (KY.out.ext Zq);replace FR:=hid (FR.out.ext Zq);replace FI:=hid (FI.out.ext Zq);replace FG:=hid (FG.out.ext Zq);replace KN:=hid (KN.out.ext Zq);replace FN:=hid (FN.out.ext Zq);replace FK:=hid (FK.out.ext Zq);replace FW:=hid (FW.out.ext Zq);obtain ⟨z9,rfl⟩:∃ Z,Z=w1:=⟨_,rfl⟩;clear hx Vq Zq q9 q14;(repeat clear zq);go_wp2_with fail;go_ret;exact ⟨rfl,Lq.out⟩
theorem X7l (w:World) (v rv lv gv:Value) (s:Q0b) (need:Int) (p:List Rul) (l:List Int) (g:List Grp) (hv:Q0g w v s) (hr:Q1d w rv p) (hl:Q0e w lv l) (hg:Q1q w gv g) (hW:Words w) :
    Calls prog 11 #[v,.agg #[.int .i64 need,rv,lv,gv]] w fun e w'=>e=.returned (.bool true) /\ Ext w w':=by
 obtain ⟨a,b,rfl,h2⟩:=hv;obtain ⟨A,Uq,rfl,-,-,-⟩:=h2.ships.opened;obtain ⟨B,Wq,rfl,-,-,-⟩:=h2.members.opened;obtain ⟨R,Gq,rfl,-,-,-⟩:=hr.opened;obtain ⟨L,ej,rfl,-,-,-⟩:=hl.opened;obtain ⟨X,og,rfl,-,-,-⟩:=hg.opened;have Lq:=hid (Ext.refl w);have uq:=hid hW;have H2:=hid h2;have Nj:=hid hr;have HL:=hid hl;have HG:=hid hg;obtain ⟨T,hT⟩:∃ T,s.ships.length=T:=⟨_,rfl⟩;obtain ⟨M,hM⟩:∃ M,s.members.length=M:=⟨_,rfl⟩;obtain ⟨lim,Uj⟩:∃ k,s.limit=k:=⟨_,rfl⟩;obtain ⟨NR,i6⟩:∃ k,p.length=k:=⟨_,rfl⟩;obtain ⟨NL,qv⟩:∃ k,l.length=k:=⟨_,rfl⟩;obtain ⟨NG,Ue⟩:∃ k,g.length=k:=⟨_,rfl⟩;have D7:=hid qv;have Mj:Hid (∀ W,Q2t W (.slice A T Uq) (.slice B M Wq) s -> Q0g W (.agg #[.int .i64 lim,.slice A T Uq,.slice B M Wq]) s):=hid (fun W h=>⟨_,_,by rw [Uj],h⟩)
 have Nw:Hid (∀ W,Q1d W (.slice R NR Gq) p -> Q0m W (.agg #[.slice R NR Gq]) p):=hid (fun W h=>⟨_,rfl,h⟩);rw [hT,hM] at H2;rw [i6] at Nj;rw [qv] at HL;rw [Ue] at HG;rw [hT,hM,Uj,i6,qv,Ue];clear h2 hr hl hg hT hM Uj i6 qv Ue hW;go_enter func11,ntmps11;go_wp2_with fail;change Calls _ _ _ (((w.alloc (.cells #[.int .i64 lim,.slice A T Uq,.slice B M Wq] 25)).alloc (.cells #[.int .i64 need,.slice R NR Gq,.slice L NL ej,.slice X NG og] 121)).alloc (.cells #[.slice R NR Gq,.slice L NL ej] 118)) _;obtain ⟨W,Nq,k0,k1,k2,Sq,eW⟩:=Q9s w 25 #[.int .i64 lim,.slice A T Uq,.slice B M Wq] 121 #[.int .i64 need,.slice R NR Gq,.slice L NL ej,.slice X NG og] 118 #[.slice R NR Gq,.slice L NL ej];rw [Nq];clear Nq;refine (Z7g _ _ s (Mj.out _ (H2.out.ext Sq.out))).mono ?_;rintro e z1 ⟨q,rfl,hq,hx⟩;have Zq:Ext w z1:=Sq.out.trans hx;replace Lq:=hid (Lq.out.trans Zq);replace uq:=hid (uq.out.ext Zq);replace H2:=hid (H2.out.ext Zq);replace Nj:=hid (Nj.out.ext Zq);replace HL:=hid (HL.out.ext Zq);replace HG:=hid (HG.out.ext Zq);have KB:=hid (k0.ext hx);have KP:=hid (k1.ext hx);have KT:=hid (k2.ext hx);clear hx Zq Sq eW k0 k1 k2;obtain ⟨gs,bq⟩:∃ z,w.heap.size=z:=⟨_,rfl⟩;rw [bq] at KB KP KT ⊢;clear bq;obtain ⟨gp,Yk⟩:∃ z,gs + 1=z:=⟨_,rfl⟩;rw [Yk] at KP KT ⊢;clear Yk;obtain ⟨gc,yy⟩:∃ z,gp + 1=z:=⟨_,rfl⟩;rw [yy] at KT ⊢;clear yy;cases q with
 | false =>
   clear hq;go_wp2_with fail;refine (X0j _ uq.out).mono ?_;rintro e z2 ⟨rfl,hx⟩;have Zq:Ext z1 z2:=hx;replace Lq:=hid (Lq.out.trans Zq);replace uq:=hid (uq.out.ext Zq);replace H2:=hid (H2.out.ext Zq);replace Nj:=hid (Nj.out.ext Zq);replace HL:=hid (HL.out.ext Zq);replace HG:=hid (HG.out.ext Zq);replace KB:=hid (KB.out.ext Zq);replace KP:=hid (KP.out.ext Zq);replace KT:=hid (KT.out.ext Zq);clear hx Zq;go_wp2;go_ret;exact ⟨rfl,Lq.out⟩
 | true =>
   have hs:Q3v s:=hq.1 rfl;have HS:=hid hs;clear hs hq;have d0KT:=KT.out.cell 0;have d1KT:=KT.out.cell 1;simp only [Go.Tw.gA,Go.Tw.gB,Go.Tw.gC] at d0KT d1KT;go_wp2_with fail;refine (X7h _ _ p (Nw.out _ Nj.out)).mono ?_;rintro e z2 ⟨q,rfl,hq,hx⟩;have Zq:Ext z1 z2:=hx;replace Lq:=hid (Lq.out.trans Zq);replace uq:=hid (uq.out.ext Zq);replace H2:=hid (H2.out.ext Zq);replace Nj:=hid (Nj.out.ext Zq);replace HL:=hid (HL.out.ext Zq);replace HG:=hid (HG.out.ext Zq);replace KB:=hid (KB.out.ext Zq);replace KP:=hid (KP.out.ext Zq);replace KT:=hid (KT.out.ext Zq);clear hx Zq d0KT d1KT;cases q with
   | false =>
     clear hq;go_wp2_with fail;refine (X0j _ uq.out).mono ?_;rintro e z3 ⟨rfl,hx⟩;have Zq:Ext z2 z3:=hx;replace Lq:=hid (Lq.out.trans Zq);replace uq:=hid (uq.out.ext Zq);replace H2:=hid (H2.out.ext Zq);replace Nj:=hid (Nj.out.ext Zq);replace HL:=hid (HL.out.ext Zq);replace HG:=hid (HG.out.ext Zq);replace KB:=hid (KB.out.ext Zq);replace KP:=hid (KP.out.ext Zq);replace KT:=hid (KT.out.ext Zq);clear hx Zq;go_wp2;go_ret;exact ⟨rfl,Lq.out⟩
   | true =>
     have hs:Y3h p:=hq.1 rfl;have Bw:=hid hs;clear hs hq;have d0KB:=KB.out.cell 0;have d1KB:=KB.out.cell 1;have d2KB:=KB.out.cell 2;have d0KP:=KP.out.cell 0;have d1KP:=KP.out.cell 1;have d2KP:=KP.out.cell 2;have d3KP:=KP.out.cell 3;have d0KT:=KT.out.cell 0;have d1KT:=KT.out.cell 1;simp only [Go.Tw.gA,Go.Tw.gB,Go.Tw.gC] at d0KB d1KB d2KB d0KP d1KP d2KP d3KP d0KT d1KT
     by_cases y9:(9:Int) < (NL:Int)
     . have hd:decide ((9:Int) < (NL:Int))=true:=decide_eq_true y9
       have hn:decide (9 < NL)=true:=decide_eq_true (by omega)
       go_wp2_with fail;refine (X0j _ uq.out).mono ?_;rintro e z3 ⟨rfl,hx⟩;have Zq:Ext z2 z3:=hx;replace Lq:=hid (Lq.out.trans Zq);replace uq:=hid (uq.out.ext Zq);replace H2:=hid (H2.out.ext Zq);replace Nj:=hid (Nj.out.ext Zq);replace HL:=hid (HL.out.ext Zq);replace HG:=hid (HG.out.ext Zq);replace KB:=hid (KB.out.ext Zq);replace KP:=hid (KP.out.ext Zq);replace KT:=hid (KT.out.ext Zq);clear hx Zq;go_wp2;go_ret;exact ⟨rfl,Lq.out⟩
     . have hd:decide ((9:Int) < (NL:Int))=false:=decide_eq_false y9
       have hn:decide (9 < NL)=false:=decide_eq_false (by omega)
       have d9:Hid (l.length <= 9):=hid (by rw [D7.out]; omega)
       go_wp2_with fail;refine (X6u _ _ g HG.out).mono ?_;rintro e z3 ⟨q,rfl,hq,hx⟩;have Zq:Ext z2 z3:=hx;replace Lq:=hid (Lq.out.trans Zq);replace uq:=hid (uq.out.ext Zq);replace H2:=hid (H2.out.ext Zq);replace Nj:=hid (Nj.out.ext Zq);replace HL:=hid (HL.out.ext Zq);replace HG:=hid (HG.out.ext Zq);replace KB:=hid (KB.out.ext Zq);replace KP:=hid (KP.out.ext Zq);replace KT:=hid (KT.out.ext Zq);clear hx Zq;clear y9 hd hn d0KB d1KB d2KB d0KP d1KP d2KP d3KP d0KT d1KT;cases q with
       | false =>
         clear hq;go_wp2_with fail;refine (X0j _ uq.out).mono ?_;rintro e z4 ⟨rfl,hx⟩;have Zq:Ext z3 z4:=hx;replace Lq:=hid (Lq.out.trans Zq);replace uq:=hid (uq.out.ext Zq);replace H2:=hid (H2.out.ext Zq);replace Nj:=hid (Nj.out.ext Zq);replace HL:=hid (HL.out.ext Zq);replace HG:=hid (HG.out.ext Zq);replace KB:=hid (KB.out.ext Zq);replace KP:=hid (KP.out.ext Zq);replace KT:=hid (KT.out.ext Zq);clear hx Zq;go_wp2;go_ret;exact ⟨rfl,Lq.out⟩
       | true =>
         have hs:Y3l g:=hq.1 rfl;have QQ:=hid hs;clear hs hq;go_upto_if 40 with fail
         repeat (first | exact J6t Lq uq H2 Nj HL HG KB KP KT Mj Nw HS Bw d9 QQ _ rfl rfl rfl rfl | go_step)
end Go.Proofs
namespace Go.Proofs.YthnobngcipaljaaGreatDoor
open Go.ChangeShapes Go.WideShapes Go.ChangeAt Go.RowKit Go.Tw
theorem X2y (os:Os) (started:os.Started) (H:Type) (enc:TypeId × Value -> H) :
    ReturnsInHanded {} Tryz.checked os 11 .any (fun w args=>(Rows.policyProofsSpec.pre enc Tryz.prog Tryz.f11 Rows.policyProofsRow.domain false w args /\ laidMetH Tryz.prog Z8v w) /\ sizedMet enc Tryz.prog Tryz.f11 (OpenSpec.ofChange Rows.policyProofsSpec) false w args)
     (Rows.policyProofsSpec.post enc Tryz.prog Tryz.f11 false true false false):=by
 refine returnsInHanded_of_change_and (C:=Tryz.checked) (X:=fun w _=>laidMetH Tryz.prog Z8v w) (fun _ _ _ hh h=>h.of_heap hh) own started (by kernel_rfl) Tryz.func11
  (ChangeSpec.witness_shaped (enc:=enc) (C:=Tryz.checked) (os:=os) (X:=fun w _=>laidMetH Tryz.prog Z8v w) false (World.laidAll Tryz.prog os Z8v) #[.agg #[.int .i64 0,.slice none 0 0,.slice none 0 0],.agg #[.int .i64 0,.slice none 0 0,.slice none 0 0,.slice none 0 0]] 8 (World.laidAll_os _ _ _)
   (World.shaped_of_ZipB (by kernel_rfl) (by kernel_rfl)) (by kernel_rfl) (by kernel_rfl) (by kernel_rfl)
   (by rw [MakeChecks.laidMetH_plain _ _ _ (by kernel_rfl)]; exact laidMet_laidAll _ (by kernel_rfl) (by kernel_rfl))) ?_
 intro W base args ds gs before OQ hW hc BW hL _;have PX:∀ (j:Nat) t v,Tryz.f11.params[j]?=some t -> args[j]?=some v -> Value.okWide Tryz.prog W .any base t v:=OQ;have pq:(DataW.weightsEach Tryz.prog (Tryz.f11.params.toList ++ Rows.policyProofsSpec.plain.varTypes Tryz.prog) (ds ++ gs)).all (· <= reachBytes)=true:=BW;have Cp:=hW;obtain ⟨p,q,qi,hV,rfl,ar,Pv⟩:=hW;have hA:DataW.TrodAll enc Tryz.prog W 0 (fun _=>true) true Tryz.f11.params.toList args.toList ds p:=qi;rw [Tryz.params11] at hA PX pq;obtain ⟨v0,vs0,d0,ds0,p0,q0,ki,rfl,rfl,h0,r0⟩:=trodAll_cons hA;obtain ⟨v1,vs1,d1,ds1,p1,q1,rfl,rfl,rfl,h1,r1⟩:=trodAll_cons r0;obtain ⟨rfl,rfl,rfl⟩:=trodAll_nil r1;obtain rfl:args=#[v0,v1]:=by cases args; simp_all
 obtain ⟨rfl,rfl⟩:=trodVars_none hV;have Gz:∀ x ∈ DataW.weightsEach Tryz.prog [25,121] [d0,d1],x <= 140737488351232:=fun x hx=>by
  have:=List.all_eq_true.1 (show (DataW.weightsEach Tryz.prog [25,121] [d0,d1]).all (· <= reachBytes)=true from pq) x hx
  exact Nat.le_trans (of_decide_eq_true this) (by decide)
 obtain ⟨f0,g0⟩:=Q2n Gz;obtain ⟨f1,g1⟩:=Q2n g0;have k0:=h0;have lt0:∀ x ∈ p0,x.block < W.heap.size:=by obtain ⟨m,hm⟩:=k0; exact DataW.trod_lt m _ _ _ hm
 obtain ⟨t0,Bp⟩:=Y2s (PX 0 25 v0 rfl rfl) h0 f0;have k1:=h1;have lt1:∀ x ∈ p1,x.block < W.heap.size:=by obtain ⟨m,hm⟩:=k1; exact DataW.trod_lt m _ _ _ hm
 obtain ⟨n1,ra1,la1,ga1,pp1,ll1,gg1,rfl,zp,rZ,Q0⟩:=Y5f (PX 1 121 v1 rfl rfl) h1 f1;have AW:Calls Tryz.prog 11 #[v0,.agg #[.int .i64 n1,ra1,la1,ga1]] W fun e W'=>e=.returned (.bool true) /\ Ext W W':=X7l _ _ _ _ _ _ _ _ _ _ Bp zp rZ Q0 (Y5g hL);clear qi OQ BW;refine AW.mono fun e W' ⟨he,bel⟩=>?_;subst he;exact ⟨_,rfl,_,_,_,[],_,[],Cp,trodAll_mk1 (shut_bool Tryz.underlying4 _),(trodAll_cons_mk (Below.trod laidOut (by kernel_rfl) (of_decide_eq_true (by kernel_rfl)) k0 bel lt0) (trodAll_cons_mk (Below.trod laidOut (by kernel_rfl) (of_decide_eq_true (by kernel_rfl)) k1 bel lt1) trodAll_mk0)),rfl,bel.frame _,fun h=>by cases h⟩
theorem Q7u:Tryz.pinned.checked.prog.funcNamed Rows.policyProofsRow.func=some 11:=by kernel_rfl
theorem X0v:Tryz.f11.isInstance Tryz.pinned.checked.prog Rows.policyProofsRow.origin Rows.policyProofsRow.targs:=of_decide_eq_true (by kernel_rfl)
theorem Y0l:(Rows.policyProofsRow.wf (OpenSpec.ofChange Rows.policyProofsSpec):Bool)=true:=by kernel_rfl
theorem X9r:(Tryz.f11.params.all (Tryz.prog.readableRec ·):Bool)=true:=by kernel_rfl
theorem X9m:(namedTie Tryz.prog Rows.policyProofsRow.named Rows.policyProofsSpec.vars:Bool)=true:=by kernel_rfl
theorem Y1c:((Rows.policyProofsRow.stops == []):Bool)=true:=by kernel_rfl
theorem Y0s:((Rows.policyProofsRow.knobs == []):Bool)=true:=by kernel_rfl
theorem X9u:((Rows.policyProofsRow.inPlace == Tryz.prog.inPlace 11):Bool)=true:=by kernel_rfl
theorem X8d:((Rows.policyProofsRow.unfollowed == Tryz.prog.unfollowed 11):Bool)=true:=by kernel_rfl
theorem X7d:((Rows.policyProofsRow.recurses == Tryz.prog.recurses 11):Bool)=true:=by kernel_rfl
theorem X7u:((Rows.policyProofsRow.named == Tryz.prog.varsNamed 11):Bool)=true:=by kernel_rfl
theorem X8a:((Rows.policyProofsRow.maps == (Tryz.f11.params.toList ++ Rows.policyProofsSpec.plain.varTypes Tryz.prog).any (Tryz.prog.mapsRec ·)):Bool)=true:=by kernel_rfl
theorem X7q:((Rows.policyProofsRow.ifaces == (Tryz.f11.params.toList ++ Rows.policyProofsSpec.plain.varTypes Tryz.prog).any (Tryz.prog.ifacesRec ·)):Bool)=true:=by kernel_rfl
theorem X7f:((Rows.policyProofsRow.mapsOut == Tryz.prog.mapsAmong Tryz.f11.resultTypes.toList):Bool)=true:=by kernel_rfl
theorem X7b:((Rows.policyProofsRow.loops == (Tryz.f11.params.toList ++ Rows.policyProofsSpec.plain.varTypes Tryz.prog).any (Tryz.prog.loopsFrom ·)):Bool)=true:=by kernel_rfl
theorem X7m:((Rows.policyProofsRow.wideKeys == (Tryz.f11.params.toList ++ Rows.policyProofsSpec.plain.varTypes Tryz.prog ++ Tryz.f11.resultTypes.toList).any (Tryz.prog.wideKeysFrom ·)):Bool)=true:=by kernel_rfl
theorem X7i:(Rows.policyProofsSpec.vars.all (Tryz.prog.varReadable ·):Bool)=true:=by kernel_rfl
theorem X7k:(Tryz.f11.resultTypes.all (fun t=>Tryz.prog.readableRec t && decide (t < Tryz.prog.types.size)):Bool)=true:=by kernel_rfl
theorem X6z:((Rows.policyProofsRow.ifacesOut == Tryz.f11.resultTypes.toList.any (Tryz.prog.ifacesRec ·)):Bool)=true:=by kernel_rfl
theorem X6y:((Rows.policyProofsRow.loopsOut == Tryz.f11.resultTypes.toList.any (Tryz.prog.loopsFrom ·)):Bool)=true:=by kernel_rfl
theorem X6x:((Rows.policyProofsRow.plainKeys == Tryz.prog.plainKeys):Bool)=true:=by kernel_rfl
theorem X7y:(Rows.policyProofsRow.shortTexts.isNone:Bool)=true:=by kernel_rfl
theorem X7a:((Rows.policyProofsRow.lifted == Tryz.prog.liftsFinal):Bool)=true:=by kernel_rfl
theorem X7p:((Tryz.prog.make == some Rows.policyProofsRow.make):Bool)=true:=by kernel_rfl
theorem X7t:(Rows.policyProofsRow.domain.isEmpty && (Rows.policyProofsRow.kinds == []):Bool)=true:=by kernel_rfl
theorem X8e:((Rows.policyProofsRow.pinned == Rows.policyProofsRow.pinnedBy):Bool)=true:=by kernel_rfl
theorem X6v:((Rows.policyProofsRow.veiled == (Tryz.f11.params.toList ++ Rows.policyProofsSpec.plain.varTypes Tryz.prog ++ Tryz.f11.resultTypes.toList).any (Tryz.prog.veiledRec ·)):Bool)=true:=by kernel_rfl
theorem X7o:(Rows.policyProofsRow.veiledFits Tryz.prog Tryz.f11.params.toList (Tryz.f11.params.toList ++ Rows.policyProofsSpec.plain.varTypes Tryz.prog ++ Tryz.f11.resultTypes.toList):Bool)=true:=by kernel_rfl
theorem X2p:joinedFacts Tryz.pinned.checked.prog 11 Tryz.f11 Rows.policyProofsSpec Rows.policyProofsRow=true :=
 Z9f Tryz.prog 11 Tryz.f11 Rows.policyProofsSpec Rows.policyProofsRow Y0l J7o J8q X9r X9m Y1c J8n Y0s J8k X9u X8d X7d X7u X8a X7q X7f X7b X7m X7i X7k X6z X6y X6x X7y J5g J4y X7a X7p X7t X8e X6v X7o
theorem X3m:Rows.PolicyProofsSaid :=
 OpenClaim.holds_of_wide 11 Tryz.f11 rfl rfl rfl rfl rfl rfl rfl ⟨rfl,rfl,rfl,rfl,rfl⟩ rfl rfl rfl rfl rfl Q7u Tryz.func11 X2p
  X0v (by unfold Func.isWrapper; first | (rw [if_pos (by decide +kernel)]; kernel_rfl) | (rw [if_neg (by decide +kernel)]; exact ⟨rfl,rfl⟩))
  (fun os started H enc _=>X2y os started H enc)
theorem X2v:Rows.policyProofsRow.wfByText (OpenSpec.ofChange Rows.policyProofsSpec)=true:=by kernel_rfl
theorem X4w:Tryz.pinned.checked.prog.mainIs=some (Rows.policyProofsCard.stood.harness.1,Rows.policyProofsCard.stood.harness.2.toList):=by kernel_rfl
theorem X3w:Rows.policyProofsCard.stood.looks=Tryz.pinned.checked.prog.looks []:=by kernel_rfl
theorem X5d:false=Rows.policyProofsRow.goesBy Tryz.pinned.checked.prog:=by kernel_rfl
theorem X1x:([25,121].all fun u=>!Tryz.prog.wantsStandIn u)=true:=by kernel_rfl
theorem policyProofs_card:Rows.PolicyProofsCardSaid :=
 Claim7.holds_tied_plain_at .later [] [.data,.data,.data,.widerDeep] true _ false X3m (fun _ h=>by cases h) X2v (fun _ h=>by cases h) policyProofs_row_tie rfl ⟨rfl,rfl⟩ X4w rfl
  (fun f fn hf yG=>by
   obtain rfl:f=11:=Option.some.inj (Q7u.symm.trans hf) |>.symm
   obtain rfl:fn=Tryz.f11:=(Option.some.inj (Tryz.func11.symm.trans yG)).symm;exact ⟨X3w,fun j t ht=>by
    have ht:#[25,121][j]?=some t:=Tryz.params11 ▸ ht;have hm:t ∈ [25,121]:=by simpa using Array.mem_of_getElem? ht
    exact (show Tryz.prog.wantsStandIn t=false by simpa using List.all_eq_true.1 X1x t hm)⟩)
  X5d
#print axioms policyProofs_card
end Go.Proofs.YthnobngcipaljaaGreatDoor
