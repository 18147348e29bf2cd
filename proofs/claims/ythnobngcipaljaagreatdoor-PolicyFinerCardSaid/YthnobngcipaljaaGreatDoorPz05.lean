/- The law PolicyFiner: a round of the loop over the members. -/
import Derived.Test.YthnobngcipaljaaGreatDoorPp35
import Derived.Test.YthnobngcipaljaaGreatDoorPz03
import Derived.Test.YthnobngcipaljaaGreatDoorPz01
import Derived.Test.YthnobngcipaljaaGreatDoorPz04
set_option maxRecDepth 1000000
set_option maxHeartbeats 64000000
set_option linter.unusedVariables false
set_option linter.unusedSimpArgs false
set_option linter.constructorNameAsVariable false
open Go.Lib (hid)
namespace Go.Proofs
open Go.RowKit Go.Tw Go.Flow
attribute [local go_sem] Oper.semAt_some
theorem Tryz.J6y (w:World):(sizeOf 3).run Tryz.prog w=.ok 1 w:=by kernel_rfl
theorem J4g (a:Act) (v:Value):a.put none v=a:=rfl
theorem J7i {s:Q0b} {i:Nat} (he:s.err=0) (hi:i < s.members.length):X4a s (i:Int)=(((Q7o s i).getD 0:Nat):Int) /\ X5q s (i:Int)=if (Q7o s i).isSome then 0 else 7:=by
 have h:Q5j s (i:Int)=0:=by
  unfold Q5j;rw [Q0r,if_pos he,Q0r];have:Q0x (X1k s (i:Int)) 10=0:=by
   unfold Q0x X1k;rw [if_neg];simp; omega
  rw [if_pos this]; rfl
 unfold X4a X5q;rw [if_pos h,if_pos h,Int.toNat_natCast];exact ⟨rfl,rfl⟩
theorem J2v {z0:World} {W0:World} {s:Q0b} {L:J8m} {A:Option Addr} {T M capa capb gs bm off i:Nat} {lim m:Int} {Q:Exit -> Act -> World -> Prop} {a0 a1 a2 a4 a5 a6 a8 a9 a10 a11 a12 a13 a14 a15 a16 a17 a18 a19 a23 a24 a25 a26 a27 a28 a29 a30 a31 a32 a33 a34 a35 a36 a37 a38 a39 a40 a41 a42 a43 a44 a45 a46 a47 a48 a49 a50 a51 a52 a53 a54 a55 a56 a57 a58 a59 a60 a61 a62 a63 a64 a65 a66 a67 a68 a69 a70 a71 a72 a73 a74 a75 a76 a77 a78 a79 a80 a81 a82 a83 a84 a85 a86 a87 a88 a89 a90 a91 a92 a93 a94 a95 a96 a97 a98 a99 a100 a101 a102 a103 a104 a105 a106 a107 a108 a109 a110 a111 a112 a113 a114 a115 a116 a117 a118 a119 a120 a121 a122 a123 a124 a125 a126 a127 a128 a129 a130 a131 a132 a133 a134 a135 a136 a137 a139 a141 a142 a143 a144 a145 a146 a147 a148 a149 a150 a151 a152 a153 a154 a155 a156 a157 a158 a159 a160 a161 a162 a163 a164 a165 a166 a167 a168 a169 a170 a171 a172 a173 a174 a175 a176 a177 a178 a179 a180 a181 a182 a183 a184 a185 a186 a187 a188 a189 a190 a191 a192 a193 a194 a195 a196 a197 a198 a199 a200 a201 a202 a203 a204 a205 a206 a207 a208 a209 a210 a211 a212 a213 a214 a215 a216 a217 a218 a219 a220 a221 a222:Value} (H20:Hid (Q7y W0 (.slice A T capa) (.slice (some ⟨bm,off,none⟩) M capb) s)) (KB0:Hid (Blk W0 gs 25 #[.int .i64 lim,.slice A T capa,.slice (some ⟨bm,off,none⟩) M capb])) (FIN:Hid (J5t W0 z0 s L i 0)) (HSEA:Hid (∀ W,Q7y W (.slice A T capa) (.slice (some ⟨bm,off,none⟩) M capb) s -> Q0h W (.agg #[.int .i64 lim,.slice A T capa,.slice (some ⟨bm,off,none⟩) M capb]) s)) (HS:Hid (Q3k s)) (HV:Hid (Q1b s)) (HE:Hid (s.err=0)) (HT:Hid (s.ships.length=T)) (HM:Hid (s.members.length=M)) (HI:Hid (i < M)) (HMO:Hid (Z5c s=m))
    (HQ:Hid (∀ (b6 b23 b24 b25 b26 b27 b142 b143 b144 b145 b146 b147 b148 b149 b150 b151 b152 b153 b154 b155 b156 b157 b158 b159 b160 b161 b162 b163 b164 b165 b166 b167 b168 b169 b170 b171 b172 b173 b174 b175 b176 b177 b178 b179 b180 b181 b182 b183 b184 b185 b186 b187:Value) (w':World),J5t W0 w' s L (i + 1) 0 -> Q .normal ⟨#[a0,a1,a2,.pointer (some ⟨gs,0,none⟩),a4,a5,b6,.int .i64 m,a8,a9,a10,a11,a12,a13,a14,a15,a16,a17,a18,a19,.pointer (some ⟨L.gc,0,none⟩),.pointer (some ⟨L.gf,0,none⟩),.int .i64 (J2m (J5l s) (i + 1)),b23,b24,b25,b26,b27,a28,a29,a30,a31,a32,a33,a34,a35,a36,a37,a38,a39,a40,a41,a42,a43,a44,a45,a46,a47,a48,a49,a50,a51,a52,a53,a54,a55,a56,a57,a58,a59,a60,a61,a62,a63,a64,a65,a66,a67,a68,a69,a70,a71,a72,a73,a74,a75,a76,a77,a78,a79,a80,a81,a82,a83,a84,a85,a86,a87,a88,a89,a90,a91,a92,a93,a94,a95,a96,a97,a98,a99,a100,a101,a102,a103,a104,a105,a106,a107,a108,a109,a110,a111,a112,a113,a114,a115,a116,a117,a118,a119,a120,a121,a122,a123,a124,a125,a126,a127,a128,a129,a130,a131,a132,a133,a134,a135,a136,a137,.slice (some ⟨bm,off,none⟩) M capb,a139,.int .i64 (i:Int),a141,b142,b143,b144,b145,b146,b147,b148,b149,b150,b151,b152,b153,b154,b155,b156,b157,b158,b159,b160,b161,b162,b163,b164,b165,b166,b167,b168,b169,b170,b171,b172,b173,b174,b175,b176,b177,b178,b179,b180,b181,b182,b183,b184,b185,b186,b187,a188,a189,a190,a191,a192,a193,a194,a195,a196,a197,a198,a199,a200,a201,a202,a203,a204,a205,a206,a207,a208,a209,a210,a211,a212,a213,a214,a215,a216,a217,a218,a219,a220,a221,a222],[]⟩ w')) :
    (J9a Tryz.f5 24).wp Tryz.prog Q ⟨#[a0,a1,a2,.pointer (some ⟨gs,0,none⟩),a4,a5,a6,.int .i64 m,a8,a9,a10,a11,a12,a13,a14,a15,a16,a17,a18,a19,.pointer (some ⟨L.gc,0,none⟩),.pointer (some ⟨L.gf,0,none⟩),.int .i64 (J2m (J5l s) i),a23,a24,a25,a26,a27,a28,a29,a30,a31,a32,a33,a34,a35,a36,a37,a38,a39,a40,a41,a42,a43,a44,a45,a46,a47,a48,a49,a50,a51,a52,a53,a54,a55,a56,a57,a58,a59,a60,a61,a62,a63,a64,a65,a66,a67,a68,a69,a70,a71,a72,a73,a74,a75,a76,a77,a78,a79,a80,a81,a82,a83,a84,a85,a86,a87,a88,a89,a90,a91,a92,a93,a94,a95,a96,a97,a98,a99,a100,a101,a102,a103,a104,a105,a106,a107,a108,a109,a110,a111,a112,a113,a114,a115,a116,a117,a118,a119,a120,a121,a122,a123,a124,a125,a126,a127,a128,a129,a130,a131,a132,a133,a134,a135,a136,a137,.slice (some ⟨bm,off,none⟩) M capb,a139,.int .i64 (i:Int),a141,a142,a143,a144,a145,a146,a147,a148,a149,a150,a151,a152,a153,a154,a155,a156,a157,a158,a159,a160,a161,a162,a163,a164,a165,a166,a167,a168,a169,a170,a171,a172,a173,a174,a175,a176,a177,a178,a179,a180,a181,a182,a183,a184,a185,a186,a187,a188,a189,a190,a191,a192,a193,a194,a195,a196,a197,a198,a199,a200,a201,a202,a203,a204,a205,a206,a207,a208,a209,a210,a211,a212,a213,a214,a215,a216,a217,a218,a219,a220,a221,a222],[]⟩ z0:=by
 conv=>arg 2; whnf
 have HX0:=hid FIN.out.ex;have H2:=hid (H20.out.ext HX0.out);have KB:=hid (KB0.out.ext HX0.out);clear HX0;have HXA:=hid (Ext.refl z0);have hI:=HI.out;have HIM:Hid (i < s.members.length):=hid (by rw [HM.out]; exact hI)
 have hiI:(i:Int) < (M:Int):=by omega
 have HT6:Hid (0 < T /\ T <= 6):=hid (by rw [<- HT.out]; exact HV.out.tides)
 obtain ⟨B2,cb2,hB2,-,-,hcm⟩:=H2.out.members.opened;rw [HM.out] at hB2 hcm;injection hB2 with k1 k2 k3;subst k1;clear k2 k3;obtain ⟨bm2,off2,x,y,zz,hBB,-,e0,e1,e2,e3,e4,hmx,hmy,hmz,-⟩:=hcm i hI;injection hBB with hBB;injection hBB with k1 k2 k3;subst k1;subst k2;obtain ⟨X1,c1,rfl,-,-,-⟩:=hmx.opened;obtain ⟨Y1,c2,rfl,-,-,-⟩:=hmy.opened;obtain ⟨Z1,c3,rfl,-,-,-⟩:=hmz.opened;obtain ⟨l1,l2,l3⟩:=HV.out.shaped i HIM.out;rw [l1,HT.out] at e2;rw [l2,HT.out] at e3;rw [l3,HT.out] at e4;have HCL:Hid ((Q0c s.members i).length=T):=hid (by rw [l1,HT.out])
 obtain ⟨nm,hnm⟩:∃ z,Q1h s.members i=z:=⟨_,rfl⟩;rw [hnm] at e0;obtain ⟨wt,hwt⟩:∃ z,Q0i s.members i=z:=⟨_,rfl⟩;rw [hwt] at e1;have HWT:=hid hwt;clear hnm hwt l1 l2 l3 hcm hmx hmy hmz hI;have hxp:=Ext.box z0 (.cells #[.string nm,.int .i64 wt,.slice X1 T c1,.slice Y1 T c2,.slice Z1 T c3] 68);have hbp:=Blk.made z0 68 #[.string nm,.int .i64 wt,.slice X1 T c1,.slice Y1 T c2,.slice Z1 T c3];replace HXA:=hid (HXA.out.trans hxp);replace H2:=hid (H2.out.ext hxp);replace KB:=hid (KB.out.ext hxp);replace FIN:=hid (FIN.out.ext hxp);go_upto_region 25 with fail;obtain ⟨gm,hgm⟩:∃ z,z0.heap.size=z:=⟨_,rfl⟩;obtain ⟨z1,hwt⟩:∃ Z,z0.alloc (.cells #[.string nm,.int .i64 wt,.slice X1 T c1,.slice Y1 T c2,.slice Z1 T c3] 68)=Z:=⟨_,rfl⟩;rw [hwt,hgm] at hbp;rw [hwt] at HXA H2 KB FIN;rw [hwt,hgm];have KM:=hid hbp;clear hbp hwt hgm hxp;clear e0 e1 e2 e3 e4;have p2:=KM.out.cell 2;simp only [Go.Tw.gA,Go.Tw.gB,Go.Tw.gC] at p2;go_wp2_with fail;clear p2
 go_loopw [148] (fun iv wr=>∃ t:Nat,t <= T /\ iv=.int .i64 t /\ J5t W0 wr s L i t /\ Blk wr gm 68 #[.string nm,.int .i64 wt,.slice X1 T c1,.slice Y1 T c2,.slice Z1 T c3]) (fun iv _=>T - (intOf iv).toNat)
 case atStart=>exact ⟨0,Nat.zero_le _,rfl,FIN.out,KM.out⟩
 case round =>
  clear HXA H2 KB FIN KM;obtain ⟨t,ht,rfl,hfr,hkm⟩:=hrel;obtain ⟨z2,rfl⟩:∃ Z,Z=wr:=⟨_,rfl⟩;have FIN:=hid hfr;have KM:=hid hkm;clear hkm
  by_cases htt:t < T
  . skip
    have htI:(t:Int) < (T:Int):=by omega
    have HTT:=hid htt;have HWJ:Hid (wrap64 ((t:Int) + 1)=(t:Int) + 1):=hid (by have:=HT6.out; unfold wrap64; omega)
    obtain ⟨g1,k1,b1,d1,g2,k2,b2,d2,hs,hput⟩:=hfr.at HIM.out (t:=t) (by rw [HCL.out]; exact htt)
    rw [HM.out,HCL.out] at hs;have FS:=hid hs;have HPUT:=hid hput;clear hs hput hfr;go_wp2_with fail;have hdr:=(Ext.refl z2).drew;refine Flow.Q4m [.p,.w,.p,.p,.p,.w,.p,.p,.w,.p,.p,.p,.w,.p,.p,.p,.last,.last,.last] [0,1,2,3,4,5,6,7,8,9,10,11,12,13,14,15,16,17,18] [[],[0],[],[0,1,2],[0,1,2,3],[0,1,2,3,4],[],[],[7],[],[7,8,9],[7,8,9,10],[7,8,9,10,11],[],[],[0,1,2,3,4,5,6,7,8,9,10,11,12],[0,1,2,3,4,5,6,7,8,9,10,11,12,15],[0,1,2,3,4,5,6,7,8,9,10,11,12,13,14,15,16],[0,1,2,3,4,5,6,7,8,9,10,11,12,13,14,15,16,17]] [16,17,18]
     [.c 0 (.pointer (some ⟨L.gc,2,none⟩)),.c 1 (.slice (some ⟨g1,0,none⟩) M k1),.c 2 (.int .i64 (i:Int)),.c 3 (.pointer (some ⟨g1,i * 5,none⟩)),.c 4 (.pointer (some ⟨g1,i * 5 + 2,none⟩)),.c 5 (.slice (some ⟨b1,0,none⟩) T d1),.c 6 (.int .i64 (t:Int)),.c 7 (.pointer (some ⟨L.gf,2,none⟩)),.c 8 (.slice (some ⟨g2,0,none⟩) M k2),.c 9 (.int .i64 (i:Int)),.c 10 (.pointer (some ⟨g2,i * 5,none⟩)),.c 11 (.pointer (some ⟨g2,i * 5 + 2,none⟩)),.c 12 (.slice (some ⟨b2,0,none⟩) T d2),.c 13 (.int .i64 (t:Int)),.c 14 (.int .i64 (i:Int)),.c 15 (.pointer (some ⟨b1,t,none⟩)),.none,.none,.none]
     [fun v w1 w'=>w'=w1.setCell ⟨b1,t,none⟩ (.int .i64 0),fun v w1 w'=>v 17=.pointer (some ⟨b2,t,none⟩) /\ w'=w1.setCell ⟨b1,t,none⟩ (.int .i64 0),fun v w1 w'=>w'=(w1.setCell ⟨b1,t,none⟩ (.int .i64 0)).setCell ⟨b2,t,none⟩ (.int .i64 (i:Int))] (by kernel_rfl) rfl (by kernel_rfl) ⟨?g0,?g1,?g2,?g3,?g4,?g5,?g6,?g7,?g8,?g9,?g10,?g11,?g12,?g13,?g14,?g15,?g16,?g17,?g18,trivial⟩ ?post
    case g0 | g2 | g6 | g7 | g9 | g13 | g14=>
     intro v w1 hx;intro bb hbb;subst hbb;refine ⟨_,fun w=>?_,rfl⟩;go_simp
    case g1 | g5 | g8 | g12=>
     intro v w1 hx;(repeat intro (zq:v _=_));intro bb hbb;subst hbb;have n0:w1.cell? ⟨L.gc,2,none⟩=some (.slice (some ⟨g1,0,none⟩) M k1):=by rw [<- FS.out.x1]; exact (FIN.out.bc.ext (hdr.trans hx)).cell 2
     have n1:w1.cell? ⟨g1,i * 5 + 2,none⟩=some (.slice (some ⟨b1,0,none⟩) T d1):=(hdr.trans hx).cell FS.out.e1;have n2:w1.cell? ⟨L.gf,2,none⟩=some (.slice (some ⟨g2,0,none⟩) M k2):=by rw [<- FS.out.x2]; exact (FIN.out.bf.ext (hdr.trans hx)).cell 2
     have n3:w1.cell? ⟨g2,i * 5 + 2,none⟩=some (.slice (some ⟨b2,0,none⟩) T d2):=(hdr.trans hx).cell FS.out.e2;intro K hK;go_simp;exact hK _ _ (Ext.refl _) rfl
    case g3 | g4 | g10 | g11 | g15=>
     intro v w1 hx;(repeat intro (zq:v _=_));intro bb hbb;subst hbb;refine ⟨_,fun w=>?_,rfl⟩;go_simp
    case g16=>
     intro v w1 hx;(repeat intro (zq:v _=_));intro wl hT;obtain rfl:wl=w1:=hT;intro bb hbb;intro K hK;have o1:bb.eval (.tmp 166)=.pointer (some ⟨b1,t,none⟩):=by rw [hbb]; dsimp only; (try simp (discharger:=decide) only [eval_put_ne]); rw [Q0a (by simp only [size_put]; exact (by decide:166 < 223))]; assumption
     obtain ⟨cs,hcs,hlt⟩:=FS.out.k1;exact Q3y (.tmp 166) _ rfl Tryz.J6y (g:=b1) (k:=t) o1 rfl rfl rfl (hcs.ext (hdr.trans hx)) hlt (fun v'=>hK _ _ rfl)
    case g17=>
     intro v w1 hx;(repeat intro (zq:v _=_));intro wl hT;replace hT:(fun v w1 w'=>w'=w1.setCell ⟨b1,t,none⟩ (.int .i64 0)) v w1 wl:=hT;intro bb hbb;subst hbb;intro K hK;go_simp;exact hK _ _ ⟨rfl,by first | exact hT | rfl⟩
    case g18=>
     intro v w1 hx;(repeat intro (zq:v _=_));intro wl hT;replace hT:(fun v w1 w'=>v 17=.pointer (some ⟨b2,t,none⟩) /\ w'=w1.setCell ⟨b1,t,none⟩ (.int .i64 0)) v w1 wl:=hT;intro bb hbb;intro K hK;obtain ⟨hT0,hT1⟩:=hT;subst hT1;have o1:bb.eval (.tmp 167)=.pointer (some ⟨b2,t,none⟩):=by rw [hbb]; dsimp only; (try simp (discharger:=decide) only [eval_put_ne]); rw [Q0a (by simp only [size_put]; exact (by decide:167 < 223))]; exact hT0
     have o2:bb.eval (.tmp 165)=.int .i64 (i:Int):=by rw [hbb]; dsimp only; (try simp (discharger:=decide) only [J4g,eval_put_ne]); rw [Q0a (by simp only [size_put]; exact (by decide:165 < 223))]; assumption
     obtain ⟨cs,hcs,hlt⟩:=FS.out.k2;exact Q3y (.tmp 167) (.tmp 165) rfl Tryz.J6y (g:=b2) (k:=t) o1 o2 rfl rfl (J3l (hcs.ext (hdr.trans hx)) (Below.heap_setCell _ _ _ _ FS.out.ne)) hlt (fun v'=>hK _ _ rfl)
    case post =>
     intro v w1 hx;(iterate 16 intro (zq:v _=_));intro w2 hE;replace hE:(fun v w1 w'=>w'=(w1.setCell ⟨b1,t,none⟩ (.int .i64 0)).setCell ⟨b2,t,none⟩ (.int .i64 (i:Int))) v w1 w2:=hE;simp only [Flow.acts,Act.put];go_simp;have hpp:=HPUT.out _ (hdr.trans hx);have hkb:=KM.out.ext (hdr.trans hx);subst hE;obtain ⟨zk,hzk⟩:∃ y,(w1.setCell ⟨b1,t,none⟩ (.int .i64 0)).setCell ⟨b2,t,none⟩ (.int .i64 (i:Int))=y:=⟨_,rfl⟩;rw [hzk] at hpp ⊢;have FIN2:=hid hpp.1;have KM2:=hid (hpp.2 gm _ _ (by decide) hkb)
     clear hpp hkb hzk hx hdr;(repeat clear zq);go_wp2;go_roundw
     case rel=>exact ⟨t + 1,by have:=HTT.out; omega,by rw [HWJ.out]; go_num,FIN2.out,KM2.out⟩
     case measure=>have:=HTT.out; rw [HWJ.out]; simp [intOf]; omega
  . skip
    have htI:¬ (t:Int) < (T:Int):=by omega
    have hte:t=T:=by omega
    subst hte;replace FIN:=hid (hfr.next HCL.out);clear hfr ht htt;have HX0:=hid FIN.out.ex;have H2:=hid (H20.out.ext HX0.out);have KB:=hid (KB0.out.ext HX0.out);clear HX0;have HXA:=hid (Ext.refl z2);obtain ⟨dd,hdd⟩:∃ z,Q7o s i=z:=⟨_,rfl⟩;have HDD:=hid hdd;clear hdd;obtain ⟨tv,htv⟩:∃ z,X4a s (i:Int)=z:=⟨_,rfl⟩;obtain ⟨ev,hev⟩:∃ z,X5q s (i:Int)=z:=⟨_,rfl⟩;have HDT:Hid (tv=((dd.getD 0:Nat):Int) /\ ev=if dd.isSome then 0 else 7):=hid (by rw [<- HDD.out,<- htv,<- hev]; exact J7i HE.out HIM.out)
    have HTV:=hid (And.intro htv hev);clear htv hev;have ps0:=KB.out.cell 0;have ps1:=KB.out.cell 1;have ps2:=KB.out.cell 2;simp only [Go.Tw.gA,Go.Tw.gB,Go.Tw.gC] at ps0 ps1 ps2;go_wp2_with fail;refine (Z9u _ _ s (HSEA.out _ H2.out) HS.out).mono ?_;rintro e z3 ⟨xs,rfl,hs2,hx⟩;have hxx:Ext z2 z3:=hx;replace HXA:=hid (HXA.out.trans hxx);replace H2:=hid (H2.out.ext hxx);replace KB:=hid (KB.out.ext hxx);replace FIN:=hid (FIN.out.ext hxx);replace KM:=hid (KM.out.ext hxx);clear hx hxx;have HSV:=hid hs2;clear hs2 ps0 ps1 ps2;go_wp2_with fail;refine (Y4y _ _ s (i:Int) HSV.out HS.out).mono ?_;rintro e z4 ⟨rfl,hx⟩;have hxx:Ext z3 z4:=hx;replace HXA:=hid (HXA.out.trans hxx);clear HSV;replace H2:=hid (H2.out.ext hxx);replace KB:=hid (KB.out.ext hxx);replace FIN:=hid (FIN.out.ext hxx);replace KM:=hid (KM.out.ext hxx);clear hx hxx;rw [HTV.out.1,HTV.out.2];clear HTV;have HSM:Hid (J2m (J5l s) (i + 1)=J2m (J5l s) i + J5l s i):=hid (J4k _ _);have hsb:=J8x HV.out (Nat.le_of_lt HIM.out);have hwb:=HV.out.weights i HIM.out;rw [HWT.out] at hwb;have hi8:i <= 8:=by have:=HV.out.some.2; have:=HIM.out; omega
    have hb1:IntKind.i64.wrap (J2m (J5l s) i + wt)=J2m (J5l s) i + wt:=Q2v _ (by omega) (by omega)
    cases dd with
    | none =>
      obtain rfl:tv=0:=HDT.out.1.trans rfl;obtain rfl:ev=7:=HDT.out.2.trans rfl;clear HDT;have hmm:¬ m < wt:=by have h:=J6n HV.out HIM.out HDD.out; rw [HMO.out,HWT.out] at h; omega
      have HSF:Hid (J5l s i=wt):=hid (by unfold J5l; rw [if_pos HDD.out,HWT.out])
      have p1:=KM.out.cell 1;simp only [Go.Tw.gA,Go.Tw.gB,Go.Tw.gC] at p1;rw [HSF.out] at HSM;have hsm:=HSM.out;rw [hsm] at HQ;clear hsm hsb hwb;go_wp2_with fail
      all_goals exact HQ.out _ _ _ _ _ _ _ _ _ _ _ _ _ _ _ _ _ _ _ _ _ _ _ _ _ _ _ _ _ _ _ _ _ _ _ _ _ _ _ _ _ _ _ _ _ _ _ _ _ _ _ _ _ FIN.out
    | some td =>
      obtain rfl:tv=(td:Int):=HDT.out.1.trans rfl;obtain rfl:ev=0:=HDT.out.2.trans rfl;clear HDT;have HSF:Hid (J5l s i=0):=hid (by unfold J5l; rw [if_neg (by rw [HDD.out]; simp)])
      rw [HSF.out,Int.add_zero] at HSM;have hsm:=HSM.out;rw [hsm] at HQ;clear hsm hsb hwb hb1;go_wp2_with fail
      all_goals exact HQ.out _ _ _ _ _ _ _ _ _ _ _ _ _ _ _ _ _ _ _ _ _ _ _ _ _ _ _ _ _ _ _ _ _ _ _ _ _ _ _ _ _ _ _ _ _ _ _ _ _ _ _ _ _ FIN.out
end Go.Proofs
