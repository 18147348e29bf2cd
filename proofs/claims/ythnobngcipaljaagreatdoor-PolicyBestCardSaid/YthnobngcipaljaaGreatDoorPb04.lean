/- The law PolicyBest: from region 25 on. The law PolicyBest: from region 8 on. -/
import Derived.Test.YthnobngcipaljaaGreatDoorPp35
import Derived.Test.YthnobngcipaljaaGreatDoorPb01
import Derived.Test.YthnobngcipaljaaGreatDoorPb03
set_option maxRecDepth 1000000
set_option maxHeartbeats 64000000
set_option linter.unusedVariables false
set_option linter.unusedSimpArgs false
set_option linter.constructorNameAsVariable false
open Go.Lib (hid)
namespace Go.Proofs
open Go.RowKit Go.Tw Go.Flow
attribute [local go_sem] Oper.semAt_some
theorem J7t {c0 c1 c2 c3:Int} (h:∀ c ∈ [c0,c1,c2,c3],c < 2 ^ 63):∀ k:Nat,k < 4 -> ∃ c,(∀ w,(Instr.index 54 (.agg #[Value.int .i64 c0,.int .i64 c1,.int .i64 c2,.int .i64 c3]) (.int .i64 (k:Int))).run Tryz.prog w=.ok (.int .i64 c) w) /\ c < 2 ^ 63:=by
 intro k hk
 match k,hk with
 | 0,_=>exact ⟨c0,fun w=>by kernel_rfl,h _ (by simp)⟩
 | 1,_=>exact ⟨c1,fun w=>by kernel_rfl,h _ (by simp)⟩
 | 2,_=>exact ⟨c2,fun w=>by kernel_rfl,h _ (by simp)⟩
 | 3,_=>exact ⟨c3,fun w=>by kernel_rfl,h _ (by simp)⟩
theorem J6c {F:Array Value} (h:F.size=279):∃ u:Nat -> Value,F=#[u 0,u 1,u 2,u 3,u 4,u 5,u 6,u 7,u 8,u 9,u 10,u 11,u 12,u 13,u 14,u 15,u 16,u 17,u 18,u 19,u 20,u 21,u 22,u 23,u 24,u 25,u 26,u 27,u 28,u 29,u 30,u 31,u 32,u 33,u 34,u 35,u 36,u 37,u 38,u 39,u 40,u 41,u 42,u 43,u 44,u 45,u 46,u 47,u 48,u 49,u 50,u 51,u 52,u 53,u 54,u 55,u 56,u 57,u 58,u 59,u 60,u 61,u 62,u 63,u 64,u 65,u 66,u 67,u 68,u 69,u 70,u 71,u 72,u 73,u 74,u 75,u 76,u 77,u 78,u 79,u 80,u 81,u 82,u 83,u 84,u 85,u 86,u 87,u 88,u 89,u 90,u 91,u 92,u 93,u 94,u 95,u 96,u 97,u 98,u 99,u 100,u 101,u 102,u 103,u 104,u 105,u 106,u 107,u 108,u 109,u 110,u 111,u 112,u 113,u 114,u 115,u 116,u 117,u 118,u 119,u 120,u 121,u 122,u 123,u 124,u 125,u 126,u 127,u 128,u 129,u 130,u 131,u 132,u 133,u 134,u 135,u 136,u 137,u 138,u 139,u 140,u 141,u 142,u 143,u 144,u 145,u 146,u 147,u 148,u 149,u 150,u 151,u 152,u 153,u 154,u 155,u 156,u 157,u 158,u 159,u 160,u 161,u 162,u 163,u 164,u 165,u 166,u 167,u 168,u 169,u 170,u 171,u 172,u 173,u 174,u 175,u 176,u 177,u 178,u 179,u 180,u 181,u 182,u 183,u 184,u 185,u 186,u 187,u 188,u 189,u 190,u 191,u 192,u 193,u 194,u 195,u 196,u 197,u 198,u 199,u 200,u 201,u 202,u 203,u 204,u 205,u 206,u 207,u 208,u 209,u 210,u 211,u 212,u 213,u 214,u 215,u 216,u 217,u 218,u 219,u 220,u 221,u 222,u 223,u 224,u 225,u 226,u 227,u 228,u 229,u 230,u 231,u 232,u 233,u 234,u 235,u 236,u 237,u 238,u 239,u 240,u 241,u 242,u 243,u 244,u 245,u 246,u 247,u 248,u 249,u 250,u 251,u 252,u 253,u 254,u 255,u 256,u 257,u 258,u 259,u 260,u 261,u 262,u 263,u 264,u 265,u 266,u 267,u 268,u 269,u 270,u 271,u 272,u 273,u 274,u 275,u 276,u 277,u 278]:=by
 refine ⟨fun i=>F.getD i undef,?_⟩;have e:F=((List.range 279).map fun i=>F.getD i undef).toArray:=by
  apply Array.ext
  . simp [h]
  . intro i h1 h2
    simp [h1]
 exact e.trans (by kernel_rfl)
theorem J7p {w w50:World} {s:Q0b} {lim me:Int} {A B:Option Addr} {T M capa capb gs:Nat} (HXA:Hid (Ext w w50)) (HWD:Hid (Words w50)) (H2:Hid (Q7y w50 (.slice A T capa) (.slice B M capb) s)) (KB:Hid (Blk w50 gs 25 #[.int .i64 lim,.slice A T capa,.slice B M capb])) (HSEA:Hid (∀ W,Q7y W (.slice A T capa) (.slice B M capb) s -> Q0h W (.agg #[.int .i64 lim,.slice A T capa,.slice B M capb]) s)) (HS:Hid (Q3k s)) (HE:Hid (s.err=0)) (HVS:Hid (Q1b s)) (HMB:Hid (me <= Y7i s)) (HR1:Hid (Q7n s me=7)) (HR2:Hid (X1s s me=[]))
    (F:Array Value) (hF:F.size=279) (f3:F[3]?=some (.pointer (some ⟨gs,0,none⟩))) (f7:F[7]?=some (.int .i64 me)) :
    (codeFrom Tryz.f4 25).wp Tryz.prog (bodyPost Tryz.prog Tryz.f4 (fun e w'=>e=.returned (.bool true) /\ Ext w w')) ⟨F,[]⟩ w50:=by
 obtain ⟨u,rfl⟩:=J6c hF;replace f3:u 3=_:=Option.some.inj f3;replace f7:u 7=_:=Option.some.inj f7;rw [f3,f7];clear hF f3 f7
 conv=>arg 2; whnf
 have d0KB:=KB.out.cell 0;have d1KB:=KB.out.cell 1;have d2KB:=KB.out.cell 2;simp only [Go.Tw.gA,Go.Tw.gB,Go.Tw.gC] at d0KB d1KB d2KB;go_wp2_with fail;refine (Z9u _ _ s (HSEA.out _ H2.out) HS.out).mono ?_;rintro e w51 ⟨g4,rfl,hg,hx⟩;have hxx:Ext w50 w51:=hx;replace HXA:=hid (HXA.out.trans hxx);replace HWD:=hid (HWD.out.ext hxx);replace H2:=hid (H2.out.ext hxx);replace KB:=hid (KB.out.ext hxx);clear hx hxx d0KB d1KB d2KB;have HG:=hid hg;clear hg;go_wp2_with fail;refine (Y6j _ _ s me HG.out HS.out).mono ?_;rintro e w52 ⟨xg,rfl,hg,hx⟩;have hxx:Ext w51 w52:=hx;replace HXA:=hid (HXA.out.trans hxx);clear HG;replace HWD:=hid (HWD.out.ext hxx);replace H2:=hid (H2.out.ext hxx);replace KB:=hid (KB.out.ext hxx);clear hx hxx;rw [HR1.out];rw [HR2.out] at hg;obtain ⟨Xg,cg,rfl,-,-,-⟩:=hg.opened;clear hg;have hl0:([]:List Grp).length=0:=rfl;rw [hl0];clear hl0;have d0KB:=KB.out.cell 0;have d1KB:=KB.out.cell 1;have d2KB:=KB.out.cell 2;simp only [Go.Tw.gA,Go.Tw.gB,Go.Tw.gC] at d0KB d1KB d2KB;go_wp2_with fail;refine (Z9u _ _ s (HSEA.out _ H2.out) HS.out).mono ?_;rintro e w53 ⟨g5,rfl,hg,hx⟩;have hxx:Ext w52 w53:=hx;replace HXA:=hid (HXA.out.trans hxx);replace HWD:=hid (HWD.out.ext hxx);replace H2:=hid (H2.out.ext hxx);replace KB:=hid (KB.out.ext hxx);clear hx hxx d0KB d1KB d2KB;have HG:=hid hg;clear hg;go_wp2_with fail;refine (Y6j _ _ s 8000 HG.out HS.out).mono ?_;rintro e w54 ⟨xo,rfl,hg,hx⟩;have hxx:Ext w53 w54:=hx;replace HXA:=hid (HXA.out.trans hxx);clear HG;replace HWD:=hid (HWD.out.ext hxx);replace H2:=hid (H2.out.ext hxx);replace KB:=hid (KB.out.ext hxx);clear hx hxx;obtain ⟨Xo,co,rfl,-,-,-⟩:=hg.opened;have FO:=hid hg;clear hg
 rcases J6b HE.out (need:=8000) (by decide) with ⟨e1,e2,-⟩ | ⟨e1,e2,-⟩
 . rw [e1]
   clear e1 e2;go_wp2_with fail;refine (J0d _ HWD.out).mono ?_;rintro e w55 ⟨rfl,hx⟩;have hxx:Ext w54 w55:=hx;replace HXA:=hid (HXA.out.trans hxx);replace HWD:=hid (HWD.out.ext hxx);replace H2:=hid (H2.out.ext hxx);replace KB:=hid (KB.out.ext hxx);replace FO:=hid (FO.out.ext hxx);clear hx hxx;go_wp2;go_ret;exact ⟨rfl,HXA.out⟩
 . rw [e1]
   rw [e2] at FO ⊢;clear e1 e2;have HGB:=hid (J6r (J7s HVS.out));have HGS:=hid (fun k=>@J5q (Q5b s) k);have HGL:Hid ((Q5b s).length <= 8):=hid (by have:=Y5g s; have:=HVS.out.some.2; omega)
   have HGA:Hid (J5t (Q5b s) (Q5b s).length=Y7i s):=hid (J6y _);obtain ⟨gl,hgl⟩:∃ l,Q5b s=l:=⟨_,rfl⟩;rw [hgl] at FO HGB HGS HGL HGA ⊢;clear hgl;obtain ⟨ng,hng⟩:∃ z,gl.length=z:=⟨_,rfl⟩;have HNG:=hid hng;rw [hng] at FO HGB HGL HGA ⊢;clear hng;go_wp2_with fail
   go_loopw [33,264] (fun sv i wr=>∃ (k:Nat),k <= ng /\ sv=.int .i64 (J5t gl k) /\ i=.int .i64 k /\ Ext w54 wr) (fun _ i _=>ng - (intOf i).toNat)
   case atStart=>exact ⟨0,Nat.zero_le _,rfl,rfl,Ext.refl _⟩
   case round =>
    obtain ⟨k,hk,rfl,rfl,hxr⟩:=hrel;obtain ⟨w55,rfl⟩:∃ Z,Z=wr:=⟨_,rfl⟩;replace HXA:=hid (HXA.out.trans hxr);replace HWD:=hid (HWD.out.ext hxr);replace H2:=hid (H2.out.ext hxr);replace KB:=hid (KB.out.ext hxr);replace FO:=hid (FO.out.ext hxr);have HXB:=hid hxr;clear hxr
    by_cases hlt:k < ng
    . skip
      have hkI:(k:Int) < ng:=by omega
      have hbd1:=HGB.out (k + 1) (by omega)
      have hbd0:=HGB.out k (by omega)
      have hsu:=HGS.out k (by rw [HNG.out]; exact hlt)
      have hl8:=HGL.out;have hwr:wrap64 (J5t gl k + Q8d gl k)=J5t gl (k + 1):=by rw [hsu] at hbd1 ⊢; unfold wrap64; omega
      have HWR:=hid hwr;obtain ⟨A1,cap1,hA1,-,-,hc⟩:=FO.out.opened;rw [HNG.out] at hA1 hc;cases hA1;obtain ⟨b,off,x,rfl,hb,e0,e1,hi0⟩:=hc k hlt;obtain ⟨X,capx,rfl,-,-,-⟩:=hi0.opened;clear hi0 hc hsu hbd0 hbd1;obtain ⟨sk,hsk⟩:∃ z,J5t gl k=z:=⟨_,rfl⟩;obtain ⟨pk,hpk⟩:∃ z,Q8d gl k=z:=⟨_,rfl⟩;obtain ⟨sn,hsn⟩:∃ z,J5t gl (k + 1)=z:=⟨_,rfl⟩;obtain ⟨mk,hmk⟩:∃ z,(Q5i gl k).length=z:=⟨_,rfl⟩;have HSN:=hid hsn;rw [hsk,hpk,hsn] at hwr;rw [hpk] at e1;rw [hmk] at e0;rw [hsk];clear hsk hpk hsn hmk HWR;have hbx:=Ext.box w55 (.cells #[.slice X mk capx,.int .i64 pk] 64);have hbk:=Blk.made w55 64 #[.slice X mk capx,.int .i64 pk];have d1c:=hbk.cell 1;simp only [Go.Tw.gA,Go.Tw.gB,Go.Tw.gC] at d1c;have HX1:=hid (HXB.out.trans hbx);clear hbk hbx;go_wp2;go_roundw
      case rel=>exact ⟨k + 1,by omega,by rw [HSN.out,hwr],by go_num,HX1.out⟩
      case measure=>simp [intOf]; omega
    . skip
      have hkI:¬ (k:Int) < ng:=by omega
      obtain rfl:k=ng:=by omega
      have hge:me <= J5t gl k:=by rw [HGA.out]; exact HMB.out
      obtain ⟨sk,hsk⟩:∃ z,J5t gl k=z:=⟨_,rfl⟩;rw [hsk] at hge ⊢;have hged:decide (me <= sk)=true:=decide_eq_true hge;clear hsk;go_wp2_with fail;refine (J0d _ HWD.out).mono ?_;rintro e w56 ⟨rfl,hx⟩;have hxx:Ext w55 w56:=hx;replace HXA:=hid (HXA.out.trans hxx);replace HWD:=hid (HWD.out.ext hxx);replace H2:=hid (H2.out.ext hxx);replace KB:=hid (KB.out.ext hxx);replace FO:=hid (FO.out.ext hxx);clear hx hxx;go_wp2;go_ret;exact ⟨rfl,HXA.out⟩
end Go.Proofs
namespace Go.Proofs
open Go.RowKit Go.Tw Go.Flow
attribute [local go_sem] Oper.semAt_some
theorem J7u {w w30:World} {s:Q0b} {need lim me n1 d1 n2 d2 e3 c0 c1 c2 c3:Int} {A B Xb:Option Addr} {T M capa capb gs gp nb cb:Nat} {x1:Plan} (HXA:Hid (Ext w w30)) (HWD:Hid (Words w30)) (H2:Hid (Q7y w30 (.slice A T capa) (.slice B M capb) s)) (KB:Hid (Blk w30 gs 25 #[.int .i64 lim,.slice A T capa,.slice B M capb])) (KA:Hid (Blk w30 (gs + 1) 54 #[.int .i64 c0,.int .i64 c1,.int .i64 c2,.int .i64 c3])) (FB:Hid (Q3m w30 (.slice Xb nb cb) (X7b s x1))) (KP:Hid (Blk w30 gp 38 #[.slice Xb nb cb])) (HSEA:Hid (∀ W,Q7y W (.slice A T capa) (.slice B M capb) s -> Q0h W (.agg #[.int .i64 lim,.slice A T capa,.slice B M capb]) s)) (HS:Hid (Q3k s)) (HE:Hid (s.err=0)) (HVS:Hid (Q1b s)) (HM:Hid (s.members.length=M)) (HCD:Hid (∀ k:Nat,k < 4 -> ∃ c,(∀ w,(Instr.index 54 (.agg #[Value.int .i64 c0,.int .i64 c1,.int .i64 c2,.int .i64 c3]) (.int .i64 (k:Int))).run Tryz.prog w=.ok (.int .i64 c) w) /\ c < 2 ^ 63)) (HBL:Hid (J7q s need me n1 d1 n2 d2 e3)) (HKM:Hid (∀ p,Q2c s (Q3r s p) <= me)) (HMB:Hid (me <= Y7i s)) (HB3:Hid (Q2c s (Q3r s (X7b s x1))=me)) (HR1:Hid (Q7n s me=7)) (HR2:Hid (X1s s me=[]))
    (F:Array Value) (hF:F.size=279) (f2:F[2]?=some (.int .i64 need)) (f3:F[3]?=some (.pointer (some ⟨gs,0,none⟩))) (f4:F[4]?=some (.pointer (some ⟨gs + 1,0,none⟩))) (f7:F[7]?=some (.int .i64 me)) (f9:F[9]?=some (.pointer (some ⟨gp,0,none⟩))) (f14:F[14]?=some (.int .i64 n2)) (f15:F[15]?=some (.int .i64 d2)) (f16:F[16]?=some (.int .i64 e3)) :
    (codeFrom Tryz.f4 8).wp Tryz.prog (bodyPost Tryz.prog Tryz.f4 (fun e w'=>e=.returned (.bool true) /\ Ext w w')) ⟨F,[]⟩ w30:=by
 obtain ⟨u,rfl⟩:=J6c hF;replace f2:u 2=_:=Option.some.inj f2;replace f3:u 3=_:=Option.some.inj f3;replace f4:u 4=_:=Option.some.inj f4;replace f7:u 7=_:=Option.some.inj f7;replace f9:u 9=_:=Option.some.inj f9;replace f14:u 14=_:=Option.some.inj f14;replace f15:u 15=_:=Option.some.inj f15;replace f16:u 16=_:=Option.some.inj f16;rw [f2,f3,f4,f7,f9,f14,f15,f16];clear hF f2 f3 f4 f7 f9 f14 f15 f16
 conv=>arg 2; whnf
 have HPB:Hid (∀ W,Q3m W (.slice Xb nb cb) (X7b s x1) -> Q0w W (.agg #[.slice Xb nb cb]) (X7b s x1)):=hid (fun W h=>⟨_,rfl,h⟩);have HPL:Hid ((X7b s x1).length <= 4096):=hid (by have:=Z5n HVS.out; unfold X7b; rw [List.length_map]; omega)
 have HP8:Hid (∀ k,k < (X7b s x1).length -> (Q0n (X7b s x1) k).length <= 4096):=hid (fun k hk=>by have:=(J6a HVS.out x1).each k hk; omega)
 have FK:Hid (∀ (p:List Rul),Q2d s.hist p=0 -> ∀ (W:World) (a b:Value),Q0h W a s -> Q0w W b p -> Calls Tryz.prog 33 #[a,b] W fun e w'=>∃ x,e=.returned (.tuple #[x,.int .i64 0]) /\ Q0d w' x (Q3r s p) /\ Ext W w'):=hid (fun p hp W a b ha hb=>J7e W a b s p ha hb HS.out HE.out hp);have HKI:Hid (∀ x ∈ Q3r s (X7b s x1),0 <= x /\ x < s.members.length):=Q8t s (X7b s x1);have HKM0:Hid (J2v s (Q3r s (X7b s x1))=0):=hid (J5r HVS.out.some.2 _);have HKN:Hid ((Q3r s (X7b s x1)).length <= M):=hid (by have:=kept_len s (X7b s x1); have h:=HM.out; omega)
 have HK4:Hid ((Q3r s (X7b s x1)).length <= 4096):=hid (by have:=kept_len s (X7b s x1); have:=HVS.out.some.2; omega)
 go_wp2_with fail;have hdr:=(Ext.refl w30).drew;refine Flow.Q1o [.w,.w,.w,.w,.w,.w,.p,.p,.p,.p,.p] [0,1,2,3,4,5,6,7,8,9,10] [[],[0],[],[1,2],[3],[1,4],[5],[5,6],[5,6],[0,1,2,3,4,5,6,7],[0,1,2,3,4,5,6,7,8,9]]
  [.c 0 (.agg #[.int .i64 lim,.slice A T capa,.slice B M capb]),⟨fun v wz=>(fun v w'=>Q0h w' (v 1) s) v wz,by intro v a b hx h; exact Q0h.ext h hx⟩,.c 2 (.agg #[.slice Xb nb cb]),⟨fun v wz=>(fun v w'=>Q0w w' (v 3) (X7b s x1)) v wz,by intro v a b hx h; exact Q0w.ext h hx⟩,⟨fun v wz=>(fun v w'=>Q0w w' (v 4) (X7b s x1)) v wz,by intro v a b hx h; exact Q0w.ext h hx⟩,⟨fun v wz=>(fun v w'=>∃ x,v 5=.tuple #[x,.int .i64 0] /\ Q0d w' x (Q3r s (X7b s x1))) v wz,by rintro v a b hx ⟨x,h1,h2⟩; exact ⟨x,h1,h2.ext hx⟩⟩,⟨fun v wz=>(fun v w'=>v 6=v 5) v wz,by intro v a b hx h; exact h⟩,⟨fun v wz=>(fun v w'=>v 5=.tuple #[v 7,.int .i64 0]) v wz,by intro v a b hx h; exact h⟩,.c 8 (.int .i64 0),⟨fun v wz=>(fun v w'=>v 9=v 7) v wz,by intro v a b hx h; exact h⟩,.c 10 (.int .i64 0)]
  (by kernel_rfl) rfl (by kernel_rfl) ⟨?g0,?g1,?g2,?g3,?g4,?g5,?g6,?g7,?g8,?g9,?g10,trivial⟩ ?post
 case g0=>
  intro v w1 hx;intro bb hbb;intro K2 hK2;have o1:bb.eval (.tmp 3)=.pointer (some ⟨gs,0,none⟩):=by rw [hbb]; dsimp only; (try simp (discharger:=decide) only [eval_put_ne]); rfl
  exact Q0p (.tmp 3) _ rfl Tryz.J3v Tryz.J2x o1 (KB.out.ext (hdr.trans hx)) rfl (hK2 _ _ (Ext.refl _) rfl)
 case g1=>
  intro v w1 hx;(repeat intro (zq:v _=_));intro bb hbb;subst hbb;intro K2 hK2;go_simp;refine Q0e (Z9u w1 _ s (HSEA.out _ (H2.out.ext (hdr.trans hx))) HS.out) ?_;rintro e w2 ⟨u,rfl,hu,hx2⟩;exact ⟨_,rfl,hK2 _ _ hx2 hu⟩
 case g2=>
  intro v w1 hx;intro bb hbb;intro K2 hK2;have o1:bb.eval (.tmp 9)=.pointer (some ⟨gp,0,none⟩):=by rw [hbb]; dsimp only; (try simp (discharger:=decide) only [eval_put_ne]); rfl
  exact Q0p (.tmp 9) _ rfl Tryz.Q8b Tryz.Q4b o1 (KP.out.ext (hdr.trans hx)) rfl (hK2 _ _ (Ext.refl _) rfl)
 case g3=>
  intro v w1 hx _ (q2:v 2=_);intro bb hbb;subst hbb;intro K2 hK2;go_simp;refine Q0e (Y7d w1 _ (X7b s x1) (HPB.out _ (FB.out.ext (hdr.trans hx))) HPL.out) ?_;rintro e w2 ⟨u,rfl,hu,hx2⟩;exact ⟨_,rfl,hK2 _ _ hx2 hu⟩
 case g4=>
  intro v w1 hx (q3:(fun v w'=>Q0w w' (v 3) (X7b s x1)) v w1);intro bb hbb;subst hbb;intro K2 hK2;go_simp;refine Q0e (J1w w1 _ (X7b s x1) q3 HPL.out HP8.out) ?_;rintro e w2 ⟨u,rfl,hu,hx2⟩;exact ⟨_,rfl,hK2 _ _ hx2 hu⟩
 case g5=>
  intro v w1 hx (q1:(fun v w'=>Q0h w' (v 1) s) v w1) (q4:(fun v w'=>Q0w w' (v 4) (X7b s x1)) v w1);intro bb hbb;subst hbb;intro K2 hK2;go_simp;refine Q0e (FK.out _ (J2r s x1) w1 _ _ q1 q4) ?_;rintro e w2 ⟨u,rfl,hu,hx2⟩;exact ⟨_,rfl,hK2 _ _ hx2 ⟨_,rfl,hu⟩⟩
 case g6=>
  intro v w1 hx _;intro bb hbb;have o1:bb.eval (.tmp 133)=v 5:=by rw [hbb]; dsimp only; (try simp (discharger:=decide) only [eval_put_ne]); rw [Q0a (by simp only [size_put]; exact (by decide:133 < 279))]
  exact ⟨_,fun w=>J5k (.tmp 133) rfl o1,rfl⟩
 case g7=>
  intro v w1 hx (q5:(fun v w'=>∃ x,v 5=.tuple #[x,.int .i64 0] /\ Q0d w' x (Q3r s (X7b s x1))) v w1) (q6:(fun v w'=>v 6=v 5) v w1);intro bb hbb;obtain ⟨x,h5,_⟩:=q5;have o1:bb.eval (.tmp 127)=.tuple #[x,.int .i64 0]:=by rw [<- h5,<- q6]; rw [hbb]; dsimp only; (try simp (discharger:=decide) only [eval_put_ne]); rw [Q0a (by simp only [size_put]; exact (by decide:127 < 279))]
  exact ⟨_,fun w=>J2s (.tmp 127) 0 rfl o1 (fun w=>J7r w _ _),h5⟩
 case g8=>
  intro v w1 hx (q5:(fun v w'=>∃ x,v 5=.tuple #[x,.int .i64 0] /\ Q0d w' x (Q3r s (X7b s x1))) v w1) (q6:(fun v w'=>v 6=v 5) v w1);intro bb hbb;obtain ⟨x,h5,_⟩:=q5;have o1:bb.eval (.tmp 127)=.tuple #[x,.int .i64 0]:=by rw [<- h5,<- q6]; rw [hbb]; dsimp only; (try simp (discharger:=decide) only [eval_put_ne]); rw [Q0a (by simp only [size_put]; exact (by decide:127 < 279))]
  exact ⟨_,fun w=>J2s (.tmp 127) 1 rfl o1 (fun w=>J7v w _ _),rfl⟩
 case g9=>
  intro v w1 hx (q0:v 0=_) _ (q2:v 2=_) _ _ _ _ _;intro bb hbb;have o1:bb.eval (.tmp 134)=v 7:=by rw [hbb]; dsimp only; (try simp (discharger:=decide) only [eval_put_ne]); rw [Q0a (by simp only [size_put]; exact (by decide:134 < 279))]
  exact ⟨_,fun w=>J3o (.tmp 134) rfl o1,rfl⟩
 case g10=>
  intro v w1 hx (q0:v 0=_) _ (q2:v 2=_) _ _ _ _ _ (q8:v 8=_) _;intro bb hbb;subst hbb;refine ⟨_,fun w=>?_,rfl⟩;go_simp
 case post =>
  intro v w1 hx (q0:v 0=_) (q1:(fun v w'=>Q0h w' (v 1) s) v w1) (q2:v 2=_) (q3:(fun v w'=>Q0w w' (v 3) (X7b s x1)) v w1) (q4:(fun v w'=>Q0w w' (v 4) (X7b s x1)) v w1) (q5:(fun v w'=>∃ x,v 5=.tuple #[x,.int .i64 0] /\ Q0d w' x (Q3r s (X7b s x1))) v w1) (q6:(fun v w'=>v 6=v 5) v w1) (q7:(fun v w'=>v 5=.tuple #[v 7,.int .i64 0]) v w1) (q8:v 8=_) (q9:(fun v w'=>v 9=v 7) v w1) (q10:v 10=_);simp only [Flow.All,Flow.acts,Act.put];go_simp;obtain ⟨xk,h5,hik⟩:=q5;replace q7:v 5=.tuple #[v 7,.int .i64 0]:=q7;replace q9:v 9=v 7:=q9;rw [h5] at q7;simp only [Value.tuple.injEq,Array.mk.injEq,List.cons.injEq,and_true] at q7;obtain ⟨Xk,ck,rfl,-,-,-⟩:=hik.opened;obtain ⟨nk,hnk⟩:∃ z,(Q3r s (X7b s x1)).length=z:=⟨_,rfl⟩;rw [hnk] at HKN;rw [hnk] at q7 hik
  (try rw [q9])
  rw [<- q7];clear hnk h5;have hxx:=hdr.trans hx;replace HXA:=hid (HXA.out.trans hxx);replace HWD:=hid (HWD.out.ext hxx);replace H2:=hid (H2.out.ext hxx);replace KB:=hid (KB.out.ext hxx);replace KA:=hid (KA.out.ext hxx);replace FB:=hid (FB.out.ext hxx);replace KP:=hid (KP.out.ext hxx);have GK:=hid (hik);obtain ⟨w31,rfl⟩:∃ Z,Z=w1:=⟨_,rfl⟩;clear hx hdr hxx q0 q1 q2 q3 q4 q6 q7 q8 q9 q10;clear hik;have hnM:¬ (M:Int) < nk:=by have:=HKN.out; omega
  have hnMd:decide ((M:Int) < nk)=false:=decide_eq_false hnM;have d0KB:=KB.out.cell 0;have d1KB:=KB.out.cell 1;have d2KB:=KB.out.cell 2;simp only [Go.Tw.gA,Go.Tw.gB,Go.Tw.gC] at d0KB d1KB d2KB;go_wp2_with fail;refine (J2u _ _ _ s (Q3r s (X7b s x1)) (HSEA.out _ H2.out) GK.out).mono ?_;rintro e w32 ⟨rfl,hx⟩;have hxx:Ext w31 w32:=hx;replace HXA:=hid (HXA.out.trans hxx);replace HWD:=hid (HWD.out.ext hxx);replace H2:=hid (H2.out.ext hxx);replace KB:=hid (KB.out.ext hxx);replace KA:=hid (KA.out.ext hxx);replace FB:=hid (FB.out.ext hxx);replace KP:=hid (KP.out.ext hxx);replace GK:=hid (GK.out.ext hxx);clear hx hxx d0KB d1KB d2KB;rw [HKM0.out];have d0KB:=KB.out.cell 0;have d1KB:=KB.out.cell 1;have d2KB:=KB.out.cell 2;simp only [Go.Tw.gA,Go.Tw.gB,Go.Tw.gC] at d0KB d1KB d2KB;go_wp2_with fail;refine (J3q _ _ _ s (Q3r s (X7b s x1)) (HSEA.out _ H2.out) GK.out HVS.out HKI.out HK4.out).mono ?_;rintro e w33 ⟨rfl,hx⟩;have hxx:Ext w32 w33:=hx;replace HXA:=hid (HXA.out.trans hxx);replace HWD:=hid (HWD.out.ext hxx);replace H2:=hid (H2.out.ext hxx);replace KB:=hid (KB.out.ext hxx);replace KA:=hid (KA.out.ext hxx);replace FB:=hid (FB.out.ext hxx);replace KP:=hid (KP.out.ext hxx);replace GK:=hid (GK.out.ext hxx);clear hx hxx d0KB d1KB d2KB;clear hnM hnMd;rw [HB3.out];have hmm:(me != me)=false:=by simp
  have a0:=KA.out.cell 0;have a1:=KA.out.cell 1;have a2:=KA.out.cell 2;have a3:=KA.out.cell 3;simp only [Go.Tw.gA,Go.Tw.gB,Go.Tw.gC] at a0 a1 a2 a3;go_wp2_with fail;clear a0 a1 a2 a3 hmm
  go_loopw [160] (fun i wr=>∃ (k:Nat),k <= 4 /\ i=.int .i64 k /\ Ext w33 wr) (fun i _=>4 - (intOf i).toNat)
  case atStart=>exact ⟨0,Nat.zero_le _,rfl,Ext.refl _⟩
  case round =>
   obtain ⟨k,hk,rfl,hxr⟩:=hrel;obtain ⟨w34,rfl⟩:∃ Z,Z=wr:=⟨_,rfl⟩;replace HXA:=hid (HXA.out.trans hxr);replace HWD:=hid (HWD.out.ext hxr);replace H2:=hid (H2.out.ext hxr);replace KB:=hid (KB.out.ext hxr);replace KA:=hid (KA.out.ext hxr);replace FB:=hid (FB.out.ext hxr);replace KP:=hid (KP.out.ext hxr);replace GK:=hid (GK.out.ext hxr);have HXB:=hid hxr;clear hxr
   by_cases hlt:k < 4
   . skip
     have hkI:(k:Int) < 4:=by omega
     obtain ⟨c,hc,hcl⟩:=HCD.out k hlt;have HCL:=hid hcl;clear hcl
     by_cases hc0:c < 0
     . skip
       have hcd:decide (c < 0)=true:=decide_eq_true hc0;go_wp2;go_roundw
       case rel=>exact ⟨k + 1,by omega,by go_num,HXB.out⟩
       case measure=>simp [intOf]; omega
     . skip
       have hcd:decide (c < 0)=false:=decide_eq_false hc0;obtain ⟨cN,rfl⟩:∃ z:Nat,c=(z:Int):=⟨c.toNat,by omega⟩
       have hc63:cN < 2 ^ 63:=by have:=HCL.out; omega
       have H63:=hid hc63;clear hc63;have HCR:Hid (Q2d s.hist (J2l s cN)=0):=J3t s cN;have d0KB:=KB.out.cell 0;have d1KB:=KB.out.cell 1;have d2KB:=KB.out.cell 2;simp only [Go.Tw.gA,Go.Tw.gB,Go.Tw.gC] at d0KB d1KB d2KB;go_wp2_with fail;refine (J5z _ _ s cN (HSEA.out _ H2.out) HE.out H63.out).mono ?_;rintro e w35 ⟨xc,rfl,hu,hx⟩;have hxx:Ext w34 w35:=hx;replace HXA:=hid (HXA.out.trans hxx);replace HWD:=hid (HWD.out.ext hxx);replace H2:=hid (H2.out.ext hxx);replace KB:=hid (KB.out.ext hxx);replace KA:=hid (KA.out.ext hxx);replace FB:=hid (FB.out.ext hxx);replace KP:=hid (KP.out.ext hxx);replace GK:=hid (GK.out.ext hxx);replace HXB:=hid (HXB.out.ext hxx);clear hx hxx d0KB d1KB d2KB;have hp:=J2d.policy HVS.out hu;have HQL:Hid ((J2l s cN).length <= 4096):=hid (by have:=Z5n HVS.out; rw [J3w]; omega)
       have HQ8:Hid (∀ k,k < (J2l s cN).length -> (Q0n (J2l s cN) k).length <= 4096):=hid (J6n HVS.out cN);obtain ⟨ux,rfl,hr⟩:=hp;obtain ⟨Xc,cc,rfl,-,-,-⟩:=hr.opened;obtain ⟨nc,hnc⟩:∃ z,(J2l s cN).length=z:=⟨_,rfl⟩;rw [hnc] at hr ⊢;clear hnc hu hcd hc0 hc;have FC:=hid hr;clear hr;have hxp:=Ext.box w35 (.cells #[.slice Xc nc cc] 47);have hbp:=Blk.made w35 47 #[.slice Xc nc cc];replace HXA:=hid (HXA.out.trans hxp);replace HWD:=hid (HWD.out.ext hxp);replace H2:=hid (H2.out.ext hxp);replace KB:=hid (KB.out.ext hxp);replace KA:=hid (KA.out.ext hxp);replace FB:=hid (FB.out.ext hxp);replace KP:=hid (KP.out.ext hxp);replace GK:=hid (GK.out.ext hxp);replace HXB:=hid (HXB.out.ext hxp);replace FC:=hid (FC.out.ext hxp);go_wp2_with fail;obtain ⟨gc,hgc⟩:∃ z,w35.heap.size=z:=⟨_,rfl⟩;obtain ⟨w36,hwt⟩:∃ Z,w35.alloc (.cells #[.slice Xc nc cc] 47)=Z:=⟨_,rfl⟩;rw [hwt,hgc] at hbp;rw [hwt] at HXA HWD H2 KB KA FB KP GK HXB FC;rw [hwt,hgc];have KC:=hid hbp;clear hbp hwt hgc hxp;have HPC:Hid (∀ W,Q3m W (.slice Xc nc cc) (J2l s cN) -> Q0w W (.agg #[.slice Xc nc cc]) (J2l s cN)):=hid (fun W h=>⟨_,rfl,h⟩);have FN:Hid (∀ (W:World) (a b:Value),Q0h W a s -> Q0w W b (J2l s cN) -> Calls Tryz.prog 37 #[a,b] W fun e w'=>e=.returned (.tuple #[.int .i64 (Q4z s (J2l s cN)),.int .i64 0]) /\ Ext W w'):=hid (fun W a b ha hb=>J5m W a b s _ ha hb HS.out HE.out HCR.out);have FD:Hid (∀ (W:World) (a b:Value),Q0h W a s -> Q0w W b (J2l s cN) -> Calls Tryz.prog 38 #[a,b] W fun e w'=>e=.returned (.tuple #[.int .i64 (X2t s (J2l s cN)),.int .i64 0]) /\ Ext W w'):=hid (fun W a b ha hb=>J6v W a b s _ ha hb HS.out HE.out HCR.out);have HBW:=hid (HBL.out.best (J2l s cN));have hkm:=HKM.out (J2l s cN);obtain ⟨wg,hwg⟩:∃ z,Q2c s (Q3r s (J2l s cN))=z:=⟨_,rfl⟩;obtain ⟨cl,hcl⟩:∃ z,Q4z s (J2l s cN)=z:=⟨_,rfl⟩;obtain ⟨dl,hdl⟩:∃ z,X2t s (J2l s cN)=z:=⟨_,rfl⟩;rw [hwg,hcl,hdl] at HBW;rw [hwg] at hkm;rw [hcl] at FN;rw [hdl] at FD;have HWG:=hid hwg;have HKL:=hid hkm;clear hwg hcl hdl hkm;have HQI:Hid (∀ x ∈ Q3r s (J2l s cN),0 <= x /\ x < s.members.length):=Q8t s (J2l s cN);have HQM:Hid (J2v s (Q3r s (J2l s cN))=0):=hid (J5r HVS.out.some.2 _);have HQ4:Hid ((Q3r s (J2l s cN)).length <= 4096):=hid (by have:=kept_len s (J2l s cN); have:=HVS.out.some.2; omega)
       have hdr:=(Ext.refl w36).drew;refine Flow.Q1o [.w,.w,.w,.w,.w,.p,.p,.p,.p,.p] [0,1,2,3,4,5,6,7,8,9] [[],[0],[],[1,2],[1,3],[4],[4,5],[4,5],[0,1,2,3,4,5,6],[0,1,2,3,4,5,6,7,8]]
        [.c 0 (.agg #[.int .i64 lim,.slice A T capa,.slice B M capb]),⟨fun v wz=>(fun v w'=>Q0h w' (v 1) s) v wz,by intro v a b hx h; exact Q0h.ext h hx⟩,.c 2 (.agg #[.slice Xc nc cc]),⟨fun v wz=>(fun v w'=>Q0w w' (v 3) (J2l s cN)) v wz,by intro v a b hx h; exact Q0w.ext h hx⟩,⟨fun v wz=>(fun v w'=>∃ x,v 4=.tuple #[x,.int .i64 0] /\ Q0d w' x (Q3r s (J2l s cN))) v wz,by rintro v a b hx ⟨x,h1,h2⟩; exact ⟨x,h1,h2.ext hx⟩⟩,⟨fun v wz=>(fun v w'=>v 5=v 4) v wz,by intro v a b hx h; exact h⟩,⟨fun v wz=>(fun v w'=>v 4=.tuple #[v 6,.int .i64 0]) v wz,by intro v a b hx h; exact h⟩,.c 7 (.int .i64 0),⟨fun v wz=>(fun v w'=>v 8=v 6) v wz,by intro v a b hx h; exact h⟩,.c 9 (.int .i64 0)]
        (by kernel_rfl) rfl (by kernel_rfl) ⟨?g0,?g1,?g2,?g3,?g4,?g5,?g6,?g7,?g8,?g9,trivial⟩ ?post
       case g0=>
        intro v w1 hx;intro bb hbb;intro K2 hK2;have o1:bb.eval (.tmp 3)=.pointer (some ⟨gs,0,none⟩):=by rw [hbb]; dsimp only; (try simp (discharger:=decide) only [eval_put_ne]); rfl
        exact Q0p (.tmp 3) _ rfl Tryz.J3v Tryz.J2x o1 (KB.out.ext (hdr.trans hx)) rfl (hK2 _ _ (Ext.refl _) rfl)
       case g1=>
        intro v w1 hx;(repeat intro (zq:v _=_));intro bb hbb;subst hbb;intro K2 hK2;go_simp;refine Q0e (Z9u w1 _ s (HSEA.out _ (H2.out.ext (hdr.trans hx))) HS.out) ?_;rintro e w2 ⟨u,rfl,hu,hx2⟩;exact ⟨_,rfl,hK2 _ _ hx2 hu⟩
       case g2=>
        intro v w1 hx;intro bb hbb;intro K2 hK2;have o1:bb.eval (.tmp 21)=.pointer (some ⟨gc,0,none⟩):=by rw [hbb]; dsimp only; (try simp (discharger:=decide) only [eval_put_ne]); rfl
        exact Q0p (.tmp 21) _ rfl Tryz.Z9i Tryz.Z7k o1 (KC.out.ext (hdr.trans hx)) rfl (hK2 _ _ (Ext.refl _) rfl)
       case g3=>
        intro v w1 hx _ (q2:v 2=_);intro bb hbb;subst hbb;intro K2 hK2;go_simp;refine Q0e (J1w w1 _ (J2l s cN) (HPC.out _ (FC.out.ext (hdr.trans hx))) HQL.out HQ8.out) ?_;rintro e w2 ⟨u,rfl,hu,hx2⟩;exact ⟨_,rfl,hK2 _ _ hx2 hu⟩
       case g4=>
        intro v w1 hx (q1:(fun v w'=>Q0h w' (v 1) s) v w1) (q3:(fun v w'=>Q0w w' (v 3) (J2l s cN)) v w1);intro bb hbb;subst hbb;intro K2 hK2;go_simp;refine Q0e (FK.out _ HCR.out w1 _ _ q1 q3) ?_;rintro e w2 ⟨u,rfl,hu,hx2⟩;exact ⟨_,rfl,hK2 _ _ hx2 ⟨_,rfl,hu⟩⟩
       case g5=>
        intro v w1 hx _;intro bb hbb;have o1:bb.eval (.tmp 173)=v 4:=by rw [hbb]; dsimp only; (try simp (discharger:=decide) only [eval_put_ne]); rw [Q0a (by simp only [size_put]; exact (by decide:173 < 279))]
        exact ⟨_,fun w=>J5k (.tmp 173) rfl o1,rfl⟩
       case g6=>
        intro v w1 hx (q4:(fun v w'=>∃ x,v 4=.tuple #[x,.int .i64 0] /\ Q0d w' x (Q3r s (J2l s cN))) v w1) (q5:(fun v w'=>v 5=v 4) v w1);intro bb hbb;obtain ⟨x,h5,_⟩:=q4;have o1:bb.eval (.tmp 168)=.tuple #[x,.int .i64 0]:=by rw [<- h5,<- q5]; rw [hbb]; dsimp only; (try simp (discharger:=decide) only [eval_put_ne]); rw [Q0a (by simp only [size_put]; exact (by decide:168 < 279))]
        exact ⟨_,fun w=>J2s (.tmp 168) 0 rfl o1 (fun w=>J7r w _ _),h5⟩
       case g7=>
        intro v w1 hx (q4:(fun v w'=>∃ x,v 4=.tuple #[x,.int .i64 0] /\ Q0d w' x (Q3r s (J2l s cN))) v w1) (q5:(fun v w'=>v 5=v 4) v w1);intro bb hbb;obtain ⟨x,h5,_⟩:=q4;have o1:bb.eval (.tmp 168)=.tuple #[x,.int .i64 0]:=by rw [<- h5,<- q5]; rw [hbb]; dsimp only; (try simp (discharger:=decide) only [eval_put_ne]); rw [Q0a (by simp only [size_put]; exact (by decide:168 < 279))]
        exact ⟨_,fun w=>J2s (.tmp 168) 1 rfl o1 (fun w=>J7v w _ _),rfl⟩
       case g8=>
        intro v w1 hx (q0:v 0=_) _ (q2:v 2=_) _ _ _ _;intro bb hbb;have o1:bb.eval (.tmp 174)=v 6:=by rw [hbb]; dsimp only; (try simp (discharger:=decide) only [eval_put_ne]); rw [Q0a (by simp only [size_put]; exact (by decide:174 < 279))]
        exact ⟨_,fun w=>J3o (.tmp 174) rfl o1,rfl⟩
       case g9=>
        intro v w1 hx (q0:v 0=_) _ (q2:v 2=_) _ _ _ _ (q7:v 7=_) _;intro bb hbb;subst hbb;refine ⟨_,fun w=>?_,rfl⟩;go_simp
       case post =>
        intro v w1 hx (q0:v 0=_) (q1:(fun v w'=>Q0h w' (v 1) s) v w1) (q2:v 2=_) (q3:(fun v w'=>Q0w w' (v 3) (J2l s cN)) v w1) (q4:(fun v w'=>∃ x,v 4=.tuple #[x,.int .i64 0] /\ Q0d w' x (Q3r s (J2l s cN))) v w1) (q5:(fun v w'=>v 5=v 4) v w1) (q6:(fun v w'=>v 4=.tuple #[v 6,.int .i64 0]) v w1) (q7:v 7=_) (q8:(fun v w'=>v 8=v 6) v w1) (q9:v 9=_);simp only [Flow.All,Flow.acts,Act.put];go_simp;obtain ⟨xk,h5,hik⟩:=q4;replace q6:v 4=.tuple #[v 6,.int .i64 0]:=q6;replace q8:v 8=v 6:=q8;rw [h5] at q6;simp only [Value.tuple.injEq,Array.mk.injEq,List.cons.injEq,and_true] at q6;obtain ⟨Xq,cq,rfl,-,-,-⟩:=hik.opened;obtain ⟨nq,hnk⟩:∃ z,(Q3r s (J2l s cN)).length=z:=⟨_,rfl⟩;rw [hnk] at q6 hik
        (try rw [q8])
        rw [<- q6];clear hnk h5;have hxx:=hdr.trans hx;replace HXA:=hid (HXA.out.trans hxx);replace HWD:=hid (HWD.out.ext hxx);replace H2:=hid (H2.out.ext hxx);replace KB:=hid (KB.out.ext hxx);replace KA:=hid (KA.out.ext hxx);replace FB:=hid (FB.out.ext hxx);replace KP:=hid (KP.out.ext hxx);replace GK:=hid (GK.out.ext hxx);replace HXB:=hid (HXB.out.ext hxx);replace FC:=hid (FC.out.ext hxx);replace KC:=hid (KC.out.ext hxx);have GQ:=hid (hik);obtain ⟨w37,rfl⟩:∃ Z,Z=w1:=⟨_,rfl⟩;clear hx hdr hxx q0 q1 q2 q3 q5 q6 q7 q8 q9;clear hik;go_wp2_with fail;have hdr:=(Ext.refl w37).drew;refine Flow.Q1o [.w,.w,.w,.w,.w,.p,.p,.p,.p,.p] [0,1,2,3,4,5,6,7,8,9] [[],[0],[],[1,2],[1,3],[4],[5],[5],[0,1,2,3,4,5,6],[0,1,2,3,4,5,6,7,8]]
         [.c 0 (.agg #[.int .i64 lim,.slice A T capa,.slice B M capb]),⟨fun v wz=>(fun v w'=>Q0h w' (v 1) s) v wz,by intro v a b hx h; exact Q0h.ext h hx⟩,.c 2 (.agg #[.slice Xc nc cc]),⟨fun v wz=>(fun v w'=>Q0w w' (v 3) (J2l s cN)) v wz,by intro v a b hx h; exact Q0w.ext h hx⟩,.c 4 (.tuple #[.int .i64 cl,.int .i64 0]),.c 5 (.tuple #[.int .i64 cl,.int .i64 0]),.c 6 (.int .i64 cl),.c 7 (.int .i64 0),.c 8 (.int .i64 cl),.c 9 (.int .i64 0)]
         (by kernel_rfl) rfl (by kernel_rfl) ⟨?g0,?g1,?g2,?g3,?g4,?g5,?g6,?g7,?g8,?g9,trivial⟩ ?post
        case g0=>
         intro v w1 hx;intro bb hbb;intro K2 hK2;have o1:bb.eval (.tmp 3)=.pointer (some ⟨gs,0,none⟩):=by rw [hbb]; dsimp only; (try simp (discharger:=decide) only [eval_put_ne]); rfl
         exact Q0p (.tmp 3) _ rfl Tryz.J3v Tryz.J2x o1 (KB.out.ext (hdr.trans hx)) rfl (hK2 _ _ (Ext.refl _) rfl)
        case g1=>
         intro v w1 hx;(repeat intro (zq:v _=_));intro bb hbb;subst hbb;intro K2 hK2;go_simp;refine Q0e (Z9u w1 _ s (HSEA.out _ (H2.out.ext (hdr.trans hx))) HS.out) ?_;rintro e w2 ⟨u,rfl,hu,hx2⟩;exact ⟨_,rfl,hK2 _ _ hx2 hu⟩
        case g2=>
         intro v w1 hx;intro bb hbb;intro K2 hK2;have o1:bb.eval (.tmp 21)=.pointer (some ⟨gc,0,none⟩):=by rw [hbb]; dsimp only; (try simp (discharger:=decide) only [eval_put_ne]); rfl
         exact Q0p (.tmp 21) _ rfl Tryz.Z9i Tryz.Z7k o1 (KC.out.ext (hdr.trans hx)) rfl (hK2 _ _ (Ext.refl _) rfl)
        case g3=>
         intro v w1 hx _ (q2:v 2=_);intro bb hbb;subst hbb;intro K2 hK2;go_simp;refine Q0e (J1w w1 _ (J2l s cN) (HPC.out _ (FC.out.ext (hdr.trans hx))) HQL.out HQ8.out) ?_;rintro e w2 ⟨u,rfl,hu,hx2⟩;exact ⟨_,rfl,hK2 _ _ hx2 hu⟩
        case g4=>
         intro v w1 hx (q1:(fun v w'=>Q0h w' (v 1) s) v w1) (q3:(fun v w'=>Q0w w' (v 3) (J2l s cN)) v w1);intro bb hbb;subst hbb;intro K2 hK2;go_simp;refine Q0e (FN.out w1 _ _ q1 q3) ?_;rintro e w2 ⟨rfl,hx2⟩;exact ⟨_,rfl,hK2 _ _ hx2 rfl⟩
        case g5 | g6 | g7=>
         intro v w1 hx;(repeat intro (zq:v _=_));intro bb hbb;subst hbb;refine ⟨_,fun w=>?_,rfl⟩;go_simp
        case g8=>
         intro v w1 hx (q0:v 0=_) _ (q2:v 2=_) _ (q4:v 4=_) (q5:v 5=_) (q6:v 6=_);intro bb hbb;subst hbb;refine ⟨_,fun w=>?_,rfl⟩;go_simp
        case g9=>
         intro v w1 hx (q0:v 0=_) _ (q2:v 2=_) _ (q4:v 4=_) (q5:v 5=_) (q6:v 6=_) (q7:v 7=_) (q8:v 8=_);intro bb hbb;subst hbb;refine ⟨_,fun w=>?_,rfl⟩;go_simp
        case post =>
         intro v w1 hx (q0:v 0=_) (q1:(fun v w'=>Q0h w' (v 1) s) v w1) (q2:v 2=_) (q3:(fun v w'=>Q0w w' (v 3) (J2l s cN)) v w1) (q4:v 4=_) (q5:v 5=_) (q6:v 6=_) (q7:v 7=_) (q8:v 8=_) (q9:v 9=_);simp only [Flow.All,Flow.acts,Act.put];go_simp;have hxx:=hdr.trans hx;replace HXA:=hid (HXA.out.trans hxx);replace HWD:=hid (HWD.out.ext hxx);replace H2:=hid (H2.out.ext hxx);replace KB:=hid (KB.out.ext hxx);replace KA:=hid (KA.out.ext hxx);replace FB:=hid (FB.out.ext hxx);replace KP:=hid (KP.out.ext hxx);replace GK:=hid (GK.out.ext hxx);replace HXB:=hid (HXB.out.ext hxx);replace FC:=hid (FC.out.ext hxx);replace KC:=hid (KC.out.ext hxx);replace GQ:=hid (GQ.out.ext hxx);obtain ⟨w38,rfl⟩:∃ Z,Z=w1:=⟨_,rfl⟩;clear hx hdr hxx q0 q1 q2 q3 q4 q5 q6 q7 q8 q9;go_wp2_with fail;have hdr:=(Ext.refl w38).drew;refine Flow.Q1o [.w,.w,.w,.w,.w,.p,.p,.p,.p,.p] [0,1,2,3,4,5,6,7,8,9] [[],[0],[],[1,2],[1,3],[4],[5],[5],[0,1,2,3,4,5,6],[0,1,2,3,4,5,6,7,8]]
          [.c 0 (.agg #[.int .i64 lim,.slice A T capa,.slice B M capb]),⟨fun v wz=>(fun v w'=>Q0h w' (v 1) s) v wz,by intro v a b hx h; exact Q0h.ext h hx⟩,.c 2 (.agg #[.slice Xc nc cc]),⟨fun v wz=>(fun v w'=>Q0w w' (v 3) (J2l s cN)) v wz,by intro v a b hx h; exact Q0w.ext h hx⟩,.c 4 (.tuple #[.int .i64 dl,.int .i64 0]),.c 5 (.tuple #[.int .i64 dl,.int .i64 0]),.c 6 (.int .i64 dl),.c 7 (.int .i64 0),.c 8 (.int .i64 dl),.c 9 (.int .i64 0)]
          (by kernel_rfl) rfl (by kernel_rfl) ⟨?g0,?g1,?g2,?g3,?g4,?g5,?g6,?g7,?g8,?g9,trivial⟩ ?post
         case g0=>
          intro v w1 hx;intro bb hbb;intro K2 hK2;have o1:bb.eval (.tmp 3)=.pointer (some ⟨gs,0,none⟩):=by rw [hbb]; dsimp only; (try simp (discharger:=decide) only [eval_put_ne]); rfl
          exact Q0p (.tmp 3) _ rfl Tryz.J3v Tryz.J2x o1 (KB.out.ext (hdr.trans hx)) rfl (hK2 _ _ (Ext.refl _) rfl)
         case g1=>
          intro v w1 hx;(repeat intro (zq:v _=_));intro bb hbb;subst hbb;intro K2 hK2;go_simp;refine Q0e (Z9u w1 _ s (HSEA.out _ (H2.out.ext (hdr.trans hx))) HS.out) ?_;rintro e w2 ⟨u,rfl,hu,hx2⟩;exact ⟨_,rfl,hK2 _ _ hx2 hu⟩
         case g2=>
          intro v w1 hx;intro bb hbb;intro K2 hK2;have o1:bb.eval (.tmp 21)=.pointer (some ⟨gc,0,none⟩):=by rw [hbb]; dsimp only; (try simp (discharger:=decide) only [eval_put_ne]); rfl
          exact Q0p (.tmp 21) _ rfl Tryz.Z9i Tryz.Z7k o1 (KC.out.ext (hdr.trans hx)) rfl (hK2 _ _ (Ext.refl _) rfl)
         case g3=>
          intro v w1 hx _ (q2:v 2=_);intro bb hbb;subst hbb;intro K2 hK2;go_simp;refine Q0e (J1w w1 _ (J2l s cN) (HPC.out _ (FC.out.ext (hdr.trans hx))) HQL.out HQ8.out) ?_;rintro e w2 ⟨u,rfl,hu,hx2⟩;exact ⟨_,rfl,hK2 _ _ hx2 hu⟩
         case g4=>
          intro v w1 hx (q1:(fun v w'=>Q0h w' (v 1) s) v w1) (q3:(fun v w'=>Q0w w' (v 3) (J2l s cN)) v w1);intro bb hbb;subst hbb;intro K2 hK2;go_simp;refine Q0e (FD.out w1 _ _ q1 q3) ?_;rintro e w2 ⟨rfl,hx2⟩;exact ⟨_,rfl,hK2 _ _ hx2 rfl⟩
         case g5 | g6 | g7=>
          intro v w1 hx;(repeat intro (zq:v _=_));intro bb hbb;subst hbb;refine ⟨_,fun w=>?_,rfl⟩;go_simp
         case g8=>
          intro v w1 hx (q0:v 0=_) _ (q2:v 2=_) _ (q4:v 4=_) (q5:v 5=_) (q6:v 6=_);intro bb hbb;subst hbb;refine ⟨_,fun w=>?_,rfl⟩;go_simp
         case g9=>
          intro v w1 hx (q0:v 0=_) _ (q2:v 2=_) _ (q4:v 4=_) (q5:v 5=_) (q6:v 6=_) (q7:v 7=_) (q8:v 8=_);intro bb hbb;subst hbb;refine ⟨_,fun w=>?_,rfl⟩;go_simp
         case post =>
          intro v w1 hx;(iterate 1 intro (zq:v _=_));intro (q1:(fun v w'=>Q0h w' (v 1) s) v w1);(iterate 1 intro (zq:v _=_));intro (q3:(fun v w'=>Q0w w' (v 3) (J2l s cN)) v w1);(iterate 6 intro (zq:v _=_));simp only [Flow.All,Flow.acts,Act.put];go_simp;have hxx:=hdr.trans hx;replace HXA:=hid (HXA.out.trans hxx);replace HWD:=hid (HWD.out.ext hxx);replace H2:=hid (H2.out.ext hxx);replace KB:=hid (KB.out.ext hxx);replace KA:=hid (KA.out.ext hxx);replace FB:=hid (FB.out.ext hxx);replace KP:=hid (KP.out.ext hxx);replace GK:=hid (GK.out.ext hxx);replace HXB:=hid (HXB.out.ext hxx);replace FC:=hid (FC.out.ext hxx);replace KC:=hid (KC.out.ext hxx);replace GQ:=hid (GQ.out.ext hxx);obtain ⟨w39,rfl⟩:∃ Z,Z=w1:=⟨_,rfl⟩;clear hx hdr hxx q1 q3;(repeat clear zq);have d0KB:=KB.out.cell 0;have d1KB:=KB.out.cell 1;have d2KB:=KB.out.cell 2;simp only [Go.Tw.gA,Go.Tw.gB,Go.Tw.gC] at d0KB d1KB d2KB;go_wp2_with fail;refine (J2u _ _ _ s (Q3r s (J2l s cN)) (HSEA.out _ H2.out) GQ.out).mono ?_;rintro e w40 ⟨rfl,hx⟩;have hxx:Ext w39 w40:=hx;replace HXA:=hid (HXA.out.trans hxx);replace HWD:=hid (HWD.out.ext hxx);replace H2:=hid (H2.out.ext hxx);replace KB:=hid (KB.out.ext hxx);replace KA:=hid (KA.out.ext hxx);replace FB:=hid (FB.out.ext hxx);replace KP:=hid (KP.out.ext hxx);replace GK:=hid (GK.out.ext hxx);replace HXB:=hid (HXB.out.ext hxx);replace FC:=hid (FC.out.ext hxx);replace KC:=hid (KC.out.ext hxx);replace GQ:=hid (GQ.out.ext hxx);clear hx hxx d0KB d1KB d2KB;rw [HQM.out];have d0KB:=KB.out.cell 0;have d1KB:=KB.out.cell 1;have d2KB:=KB.out.cell 2;simp only [Go.Tw.gA,Go.Tw.gB,Go.Tw.gC] at d0KB d1KB d2KB;go_wp2_with fail;refine (J3q _ _ _ s (Q3r s (J2l s cN)) (HSEA.out _ H2.out) GQ.out HVS.out HQI.out HQ4.out).mono ?_;rintro e w41 ⟨rfl,hx⟩;have hxx:Ext w40 w41:=hx;replace HXA:=hid (HXA.out.trans hxx);replace HWD:=hid (HWD.out.ext hxx);replace H2:=hid (H2.out.ext hxx);replace KB:=hid (KB.out.ext hxx);replace KA:=hid (KA.out.ext hxx);replace FB:=hid (FB.out.ext hxx);replace KP:=hid (KP.out.ext hxx);replace GK:=hid (GK.out.ext hxx);replace HXB:=hid (HXB.out.ext hxx);replace FC:=hid (FC.out.ext hxx);replace KC:=hid (KC.out.ext hxx);replace GQ:=hid (GQ.out.ext hxx);clear hx hxx d0KB d1KB d2KB;rw [HWG.out];have hm1:¬ me < wg:=by have:=HKL.out; omega
          have hm1d:decide (me < wg)=false:=decide_eq_false hm1;have hkI1:(k:Int) < 4:=hkI
          by_cases hn:need <= wg
          . have hnd:decide (need <= wg)=true:=decide_eq_true hn
            obtain ⟨rfl,hcc⟩:=HBW.out hn;have h1:¬ cl < n2:=by omega
            have h1d:decide (cl < n2)=false:=decide_eq_false h1
            by_cases he2:cl=n2
            . subst he2
              have h2:¬ dl < d2:=by omega
              have h2d:decide (dl < d2)=false:=decide_eq_false h2;clear hcc;go_wp2;go_roundw
              case rel=>exact ⟨k + 1,by omega,by go_num,HXB.out⟩
              case measure=>simp [intOf]; omega
            . have h2:(cl == n2)=false:=by simp; omega
              clear hcc;go_wp2;go_roundw
              case rel=>exact ⟨k + 1,by omega,by go_num,HXB.out⟩
              case measure=>simp [intOf]; omega
          . have hnd:decide (need <= wg)=false:=decide_eq_false hn
            go_wp2;go_roundw
            case rel=>exact ⟨k + 1,by omega,by go_num,HXB.out⟩
            case measure=>simp [intOf]; omega
   . skip
     have hkI:¬ (k:Int) < 4:=by omega
     clear HXB;go_upto_if 161 with fail
     go_step
     go_step
     go_step
     go_step
     go_step
     go_step
     exact J7p HXA HWD H2 KB HSEA HS HE HVS HMB HR1 HR2 _ rfl rfl rfl
end Go.Proofs
