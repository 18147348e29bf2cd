/- The law PolicyCertifies: from region 22 on. -/
import Derived.Test.YthnobngcipaljaaGreatDoorPp35
import Derived.Test.YthnobngcipaljaaGreatDoorPt01
import Derived.Test.YthnobngcipaljaaGreatDoorPt05
import Derived.Test.YthnobngcipaljaaGreatDoorPt02
import Derived.Test.YthnobngcipaljaaGreatDoorPt03
set_option maxRecDepth 1000000
set_option maxHeartbeats 64000000
set_option linter.unusedVariables false
set_option linter.unusedSimpArgs false
set_option linter.constructorNameAsVariable false
open Go.Lib (hid)
namespace Go.Proofs
open Go.RowKit Go.Tw Go.Flow
attribute [local go_sem] Oper.semAt_some
theorem fza06 {u:Type} {a b:u} (h:a=b:=by rw [hbb]; dsimp only; (try simp (discharger:=decide) only [Flow.eval_put_ne,Flow.J2k]); rw [Flow.Q0a (by simp only [Flow.size_put]; show _ < 212; decide)]; assumption):a=b:=h
theorem fzb06 {a b:Nat} (h:a < b:=by rw [hbb]; simp only [Flow.size_put]; show _ < 212; decide):a < b:=h
theorem fzc06 {u:Type} {a b:u} (h:a=b:=by rw [hbb]; dsimp only; (try simp (discharger:=decide) only [Flow.eval_put_ne]); rw [Flow.Q0a (by simp only [Flow.size_put]; show _ < 212; decide)]; assumption):a=b:=h
theorem fzd06 {u:Type} {a b:u} (h:a=b:=by rw [hbb]; dsimp only; (try simp (discharger:=decide) only [Flow.eval_put_ne,Flow.J2k]); rfl):a=b:=h
theorem J6u {F:Array Value} (h:F.size=212):∃ u:Nat -> Value,F=#[u 0,u 1,u 2,u 3,u 4,u 5,u 6,u 7,u 8,u 9,u 10,u 11,u 12,u 13,u 14,u 15,u 16,u 17,u 18,u 19,u 20,u 21,u 22,u 23,u 24,u 25,u 26,u 27,u 28,u 29,u 30,u 31,u 32,u 33,u 34,u 35,u 36,u 37,u 38,u 39,u 40,u 41,u 42,u 43,u 44,u 45,u 46,u 47,u 48,u 49,u 50,u 51,u 52,u 53,u 54,u 55,u 56,u 57,u 58,u 59,u 60,u 61,u 62,u 63,u 64,u 65,u 66,u 67,u 68,u 69,u 70,u 71,u 72,u 73,u 74,u 75,u 76,u 77,u 78,u 79,u 80,u 81,u 82,u 83,u 84,u 85,u 86,u 87,u 88,u 89,u 90,u 91,u 92,u 93,u 94,u 95,u 96,u 97,u 98,u 99,u 100,u 101,u 102,u 103,u 104,u 105,u 106,u 107,u 108,u 109,u 110,u 111,u 112,u 113,u 114,u 115,u 116,u 117,u 118,u 119,u 120,u 121,u 122,u 123,u 124,u 125,u 126,u 127,u 128,u 129,u 130,u 131,u 132,u 133,u 134,u 135,u 136,u 137,u 138,u 139,u 140,u 141,u 142,u 143,u 144,u 145,u 146,u 147,u 148,u 149,u 150,u 151,u 152,u 153,u 154,u 155,u 156,u 157,u 158,u 159,u 160,u 161,u 162,u 163,u 164,u 165,u 166,u 167,u 168,u 169,u 170,u 171,u 172,u 173,u 174,u 175,u 176,u 177,u 178,u 179,u 180,u 181,u 182,u 183,u 184,u 185,u 186,u 187,u 188,u 189,u 190,u 191,u 192,u 193,u 194,u 195,u 196,u 197,u 198,u 199,u 200,u 201,u 202,u 203,u 204,u 205,u 206,u 207,u 208,u 209,u 210,u 211]:=by
 refine ⟨fun i=>F.getD i undef,?_⟩;have e:F=((List.range 212).map fun i=>F.getD i undef).toArray:=by
  apply Array.ext
  . simp [h]
  . intro i h1 h2
    simp [h1]
 exact e.trans (by kernel_rfl)
theorem J7c {bg og cg:Nat} {ap:Addr} (ha:(if cg=1 then (⟨bg,og,none⟩:Addr) else ⟨bg,og + 2,none⟩)=ap):(if cg=1 then some (⟨bg,og,none⟩:Addr) else some ⟨bg,og + 2,none⟩)=some ap:=by
 rw [<- ha]; split <;> rfl
theorem J7q {gl:List Grp} {x:Int} (h:∀ k,k < gl.length -> (Q5i gl k).length <= 1000):∀ k,k < (gl.set 0 ⟨Q5i gl 0,x⟩).length -> (Q5i (gl.set 0 ⟨Q5i gl 0,x⟩) k).length <= 1000:=by
 intro k hk;rw [List.length_set] at hk;have h1:=h k hk;unfold Q5i at h1 ⊢;rw [Q0v _ hk] at h1;rw [Q0v _ (by rw [List.length_set]; exact hk),List.getElem_set]
 split
 . rename_i e; subst e
   show (gl.getD 0 default).members.length <= 1000;rw [Q0v _ hk]; exact h1
 . exact h1
theorem J8z {w z60:World} {s:Q0b} {need lim me:Int} {A B:Option Addr} {T M capa capb gs:Nat} (HXA:Hid (Ext w z60)) (HWD:Hid (Words z60)) (H2:Hid (Q7y z60 (.slice A T capa) (.slice B M capb) s)) (KB:Hid (Blk z60 gs 25 #[.int .i64 lim,.slice A T capa,.slice B M capb])) (HSEA:Hid (∀ W,Q7y W (.slice A T capa) (.slice B M capb) s -> Q0h W (.agg #[.int .i64 lim,.slice A T capa,.slice B M capb]) s)) (HS:Hid (Q3k s)) (HE:Hid (s.err=0)) (HVS:Hid (Q1b s)) (HM:Hid (s.members.length=M)) (HRN:Hid (Q0f need 0 8000=0)) (HMB:Hid (me <= Y7i s))
    (F:Array Value) (hF:F.size=212) (f1:F[1]?=some (.int .i64 need)) (f2:F[2]?=some (.pointer (some ⟨gs,0,none⟩))) (f5:F[5]?=some (.int .i64 me)) :
    (codeFrom Tryz.f12 22).wp Tryz.prog (bodyPost Tryz.prog Tryz.f12 (fun e w'=>e=.returned (.bool true) /\ Ext w w')) ⟨F,[]⟩ z60:=by
 obtain ⟨u,rfl⟩:=J6u hF;replace f1:u 1=_:=Option.some.inj f1;replace f2:u 2=_:=Option.some.inj f2;replace f5:u 5=_:=Option.some.inj f5;rw [f1,f2,f5];clear hF f1 f2 f5
 conv=>arg 2; whnf
 have d0KB:=KB.out.cell 0;have d1KB:=KB.out.cell 1;have d2KB:=KB.out.cell 2;simp only [Go.Tw.gA,Go.Tw.gB,Go.Tw.gC] at d0KB d1KB d2KB;go_wp2_with fail;refine (Z9u _ _ s (HSEA.out _ H2.out) HS.out).mono ?_;rintro e z61 ⟨g4,rfl,hg,hx⟩;have hxx:Ext z60 z61:=hx;replace HXA:=hid (HXA.out.trans hxx);replace HWD:=hid (HWD.out.ext hxx);replace H2:=hid (H2.out.ext hxx);replace KB:=hid (KB.out.ext hxx);clear hx hxx d0KB d1KB d2KB;have HG:=hid hg;clear hg;go_wp2_with fail;refine (Y6j _ _ s need HG.out HS.out).mono ?_;rintro e z62 ⟨xg,rfl,hg,hx⟩;have hxx:Ext z61 z62:=hx;replace HXA:=hid (HXA.out.trans hxx);clear HG;replace HWD:=hid (HWD.out.ext hxx);replace H2:=hid (H2.out.ext hxx);replace KB:=hid (KB.out.ext hxx);clear hx hxx;obtain ⟨Xg,cg,rfl,-,-,-⟩:=hg.opened;have FG:=hid hg;clear hg
 rcases J6i HE.out HRN.out with ⟨e1,e2,-⟩ | ⟨e1,e2,hbo⟩
 . rw [e1]
   clear e1 e2;go_wp2_with fail;refine (J0d _ HWD.out).mono ?_;rintro e z63 ⟨rfl,hx⟩;have hxx:Ext z62 z63:=hx;replace HXA:=hid (HXA.out.trans hxx);replace HWD:=hid (HWD.out.ext hxx);replace H2:=hid (H2.out.ext hxx);replace KB:=hid (KB.out.ext hxx);replace FG:=hid (FG.out.ext hxx);clear hx hxx;go_wp2;go_ret;exact ⟨rfl,HXA.out⟩
 . rw [e1]
   rw [e2] at FG ⊢;have HBO:=hid hbo;clear e1 e2 hbo;have HRO:=hid (J7d HE.out HRN.out HBO.out);have HRT:=hid (J6d HVS.out HE.out (need:=need) HRN.out);have HRL:=hid (fun x hx=>J5t HVS.out HE.out (need:=need) HRN.out (x:=x) hx);have HGB:=hid (J9h HVS.out);have HGN:Hid (0 < (Q5b s).length /\ (Q5b s).length <= M):=hid ⟨List.length_pos_iff.2 (J5c s HVS.out.some.1),by rw [<- HM.out]; exact J6z s⟩
   have HGM:Hid (∀ k,k < (Q5b s).length -> (Q5i (Q5b s) k).length <= 8):=hid (fun k hk=>by have h:=Y3q s _ (List.getElem_mem hk); have:=HVS.out.some.2; unfold Q5i; rw [Q0v _ hk]; omega)
   have HM8:Hid (M <= 8):=hid (by rw [<- HM.out]; exact HVS.out.some.2)
   obtain ⟨gl,hgl⟩:∃ l,Q5b s=l:=⟨_,rfl⟩;rw [hgl] at FG HRO HRT HRL HGB HGN HGM ⊢;clear hgl;obtain ⟨ng,hng⟩:∃ z,gl.length=z:=⟨_,rfl⟩;have HNG:=hid hng;rw [hng] at FG HGN ⊢;clear hng;have hgn:=HGN.out;have hn0:((ng:Int) == 0)=false:=by simp; omega
   have hnM:¬ (M:Int) < (ng:Int):=by omega
   have hnMd:decide ((M:Int) < (ng:Int))=false:=decide_eq_false hnM;have hnN:¬ M < ng:=by omega
   have hnNd:decide (M < ng)=false:=decide_eq_false hnN;have hle:¬ need <= me:=by have:=HBO.out; have:=HMB.out; omega
   have hled:decide (need <= me)=false:=decide_eq_false hle;obtain ⟨Ag,capg,hAg,-,hcp,hcg⟩:=FG.out.opened;rw [HNG.out] at hAg hcg hcp;cases hAg;obtain ⟨bg,og,xg0,rfl,-,-,-,-⟩:=hcg 0 hgn.1;have HFT:=hid (fun (W:World) (h:Q4j W (.slice (some ⟨bg,og,none⟩) ng cg) gl)=>J7x h hgn.1);obtain ⟨ap,hap⟩:∃ z,(if cg=1 then (⟨bg,og,none⟩:Addr) else ⟨bg,og + 2,none⟩)=z:=⟨_,rfl⟩
   rw [hap] at HFT;have HAP:=hid hap;have HLN:Hid (gl.length <= 1000):=hid (by have:=HM8.out; rw [HNG.out]; omega)
   have HLM:Hid (∀ k,k < gl.length -> (Q5i gl k).length <= 1000):=hid (fun k hk=>by have:=HGM.out k hk; omega)
   have HTN:Hid ((gl.drop 1).length <= 1000):=hid (by have:=HLN.out; rw [List.length_drop]; omega)
   have HTM:Hid (∀ k,k < (gl.drop 1).length -> (Q5i (gl.drop 1) k).length <= 1000):=hid (fun k hk=>by rw [List.length_drop] at hk; have h:=HGM.out (k + 1) (by omega); unfold Q5i at h ⊢; rw [Q0v _ (by omega)] at h; rw [Q0v _ (by rw [List.length_drop]; omega),List.getElem_drop]; rw [show (gl[1 + k]'(by omega))=gl[k + 1]'(by omega) from by congr 1; omega]; omega)
   have hcg1:1 <= ng /\ ng <= cg:=⟨by omega,by omega⟩
   have HNC:=hid hcg1;clear hcg hap;go_upto_region 25 with fail
   go_cut [192] (fun x wx=>x=.bool false /\ Ext z62 wx)
   case first =>
    go_wp2_with fail;have hdr:=(Ext.refl z62).drew;refine Flow.Q1o [.p,.p,.p,.p,.p,.p,.p,.w,.p,.p,.p,.p,.p,.p,.p,.p,.p,.w,.w,.p,.p,.w,.w,.w,.p,.p,.p,.w,.w,.p,.p,.p,.w,.w,.w,.p,.p] [0,1,2,3,4,5,6,7,8,9,10,11,12,13,14,15,16,17,18,19,20,21,22,23,24,25,26,27,28,29,30,31,32,33,34,35,36] [[],[0],[1],[2],[3],[3,4],[3],[3,6],[3,7],[3,5,8],[3,9],[3,10],[11],[11],[11,12,13],[11,14],[11,15],[16],[16,17],[16],[16],[16,18,20],[16,21],[16,18,19,22],[16,23],[16,24],[23,25],[26],[26,27],[26],[26],[26,30],[26,28,31],[26,32],[26,28,29,33],[26,34],[26,35]]
     [.c 0 (.slice (some ⟨bg,og,none⟩) ng cg),.c 1 (.int .i64 ((ng:Nat):Int)),.c 2 (.bool false),.c 3 (.bool false),.c 4 (.slice (some ⟨bg,og,none⟩) ng cg),.c 5 (.int .i64 ((ng:Nat):Int)),.c 6 (.pointer (some ⟨gs,2,none⟩)),.c 7 (.slice B M capb),.c 8 (.int .i64 ((M:Nat):Int)),.c 9 (.bool false),.c 10 (.bool false),.c 11 (.bool false),.c 12 (.int .i64 need),.c 13 (.int .i64 me),.c 14 (.bool false),.c 15 (.bool false),.c 16 (.bool false),.c 17 (.agg #[.int .i64 lim,.slice A T capa,.slice B M capb]),⟨fun v wz=>(fun v w'=>Q0h w' (v 18) s) v wz,by intro v a b hx h; exact Q0h.ext h hx⟩,.c 19 (.int .i64 need),.c 20 (.slice (some ⟨bg,og,none⟩) ng cg),⟨fun v wz=>(fun v w'=>Q4j w' (v 21) (gl)) v wz,by intro v a b hx h; exact Q4j.ext h hx⟩,⟨fun v wz=>(fun v w'=>Q4j w' (v 22) (gl)) v wz,by intro v a b hx h; exact Q4j.ext h hx⟩,.c 23 (.int .i64 0),.c 24 (.bool false),.c 25 (.bool false),.c 26 (.bool false),.c 27 (.agg #[.int .i64 lim,.slice A T capa,.slice B M capb]),⟨fun v wz=>(fun v w'=>Q0h w' (v 28) s) v wz,by intro v a b hx h; exact Q0h.ext h hx⟩,.c 29 (.int .i64 need),.c 30 (.slice (some ⟨bg,og,none⟩) ng cg),.c 31 (.slice (some ap) (ng - 1) (cg - 1)),⟨fun v wz=>(fun v w'=>Q4j w' (v 32) (gl.drop 1)) v wz,by intro v a b hx h; exact Q4j.ext h hx⟩,⟨fun v wz=>(fun v w'=>Q4j w' (v 33) (gl.drop 1)) v wz,by intro v a b hx h; exact Q4j.ext h hx⟩,.c 34 (.int .i64 22),.c 35 (.bool false),.c 36 (.bool false)]
     (by kernel_rfl) rfl (by kernel_rfl) ?owed ?post
    case owed =>
     refine ⟨?g0,?g1,?g2,?g3,?g4,?g5,?g6,?g7,?g8,?g9,?g10,?g11,?g12,?g13,?g14,?g15,?g16,?g17,?g18,?g19,?g20,?g21,?g22,?g23,?g24,?g25,?g26,?g27,?g28,?g29,?g30,?g31,?g32,?g33,?g34,?g35,?g36,trivial⟩
     case g0=>
      intro v w1 hx;intro bb hbb;have fo0:bb.eval (.tmp 16)=.slice (some ⟨bg,og,none⟩) ng cg:=fzd06
      clear hbb;refine ⟨_,fun w=>?_,rfl⟩;unfold execOp;simp only [fo0];clear fo0;go_simp
     case g1=>
      intro v w1 hx;(repeat intro (zq:v _=_));intro bb hbb;subst hbb;refine ⟨_,fun w=>?_,rfl⟩;go_simp
     case g2=>
      intro v w1 hx;(repeat intro (zq:v _=_));intro bb hbb;have fo0:bb.eval (.tmp 157)=.int .i64 ((ng:Nat):Int):=fza06
      clear hbb;refine ⟨_,fun w=>?_,rfl⟩;unfold execOp;simp only [fo0];clear fo0;go_simp
     case g3=>
      intro v w1 hx;(repeat intro (zq:v _=_));intro bb hbb;have fo0:bb.eval (.tmp 158)=.bool false:=fza06
      clear hbb;refine ⟨_,fun w=>?_,rfl⟩;unfold execOp;simp only [fo0];clear fo0;go_simp
     case g4=>
      intro v w1 hx;(repeat intro (zq:v _=_));intro bb hbb;refine Flow.Q0l (d:=159) rfl rfl fzb06 fzc06 ?_
      have fo0:bb.eval (.tmp 16)=.slice (some ⟨bg,og,none⟩) ng cg:=fzd06
      clear hbb;refine ⟨_,fun w=>?_,rfl⟩;unfold execOp;simp only [fo0];clear fo0;go_simp
     case g5 | g8=>
      intro v w1 hx;(repeat intro (zq:v _=_));intro bb hbb;refine Flow.Q0l (d:=159) rfl rfl fzb06 fzc06 ?_
      subst hbb;refine ⟨_,fun w=>?_,rfl⟩;go_simp
     case g6=>
      intro v w1 hx;(repeat intro (zq:v _=_));intro bb hbb;refine Flow.Q0l (d:=159) rfl rfl fzb06 fzc06 ?_
      have fo0:bb.eval (.tmp 2)=.pointer (some ⟨gs,0,none⟩):=fzd06
      clear hbb;refine ⟨_,fun w=>?_,rfl⟩;unfold execOp;simp only [fo0];clear fo0;go_simp
     case g7=>
      intro v w1 hx;(repeat intro (zq:v _=_));intro bb hbb;have n0:w1.cell? ⟨gs,2,none⟩=some (.slice B M capb):=(KB.out.ext (hdr.trans hx)).cell 2;refine Flow.Q0l (d:=159) rfl rfl fzb06 fzc06 ?_
      have fo0:bb.eval (.tmp 162)=.pointer (some ⟨gs,2,none⟩):=fza06
      clear hbb;intro K hK;unfold execOp;simp only [fo0];clear fo0;go_simp;exact hK _ _ (Ext.refl _) rfl
     case g9=>
      intro v w1 hx;(repeat intro (zq:v _=_));intro bb hbb;refine Flow.Q0l (d:=159) rfl rfl fzb06 fzc06 ?_
      have fo0:bb.eval (.tmp 161)=.int .i64 ((ng:Nat):Int):=fza06
      have fo1:bb.eval (.tmp 164)=.int .i64 ((M:Nat):Int):=fza06
      clear hbb;refine ⟨_,fun w=>?_,rfl⟩;unfold execOp;simp only [fo0,fo1];clear fo0 fo1;go_simp
     case g10=>
      intro v w1 hx;(repeat intro (zq:v _=_));intro bb hbb;have fo0:bb.eval (.tmp 159)=.bool false:=fza06
      have fo1:bb.eval (.tmp 165)=.bool false:=fza06
      clear hbb;refine ⟨_,fun w=>?_,rfl⟩;unfold execOp;simp only [fo0,fo1];clear fo0 fo1;go_simp
     case g11=>
      intro v w1 hx;(repeat intro (zq:v _=_));intro bb hbb;have fo0:bb.eval (.tmp 166)=.bool false:=fza06
      clear hbb;refine ⟨_,fun w=>?_,rfl⟩;unfold execOp;simp only [fo0];clear fo0;go_simp
     case g12=>
      intro v w1 hx;(repeat intro (zq:v _=_));intro bb hbb;refine Flow.Q0l (d:=167) rfl rfl fzb06 fzc06 ?_
      have fo0:bb.eval (.tmp 1)=.int .i64 need:=fzd06
      clear hbb;refine ⟨_,fun w=>?_,rfl⟩;unfold execOp;simp only [fo0];clear fo0;go_simp
     case g13=>
      intro v w1 hx;(repeat intro (zq:v _=_));intro bb hbb;refine Flow.Q0l (d:=167) rfl rfl fzb06 fzc06 ?_
      have fo0:bb.eval (.tmp 5)=.int .i64 me:=fzd06
      clear hbb;refine ⟨_,fun w=>?_,rfl⟩;unfold execOp;simp only [fo0];clear fo0;go_simp
     case g14=>
      intro v w1 hx;(repeat intro (zq:v _=_));intro bb hbb;refine Flow.Q0l (d:=167) rfl rfl fzb06 fzc06 ?_
      have fo0:bb.eval (.tmp 168)=.int .i64 need:=fza06
      have fo1:bb.eval (.tmp 169)=.int .i64 me:=fza06
      clear hbb;refine ⟨_,fun w=>?_,rfl⟩;unfold execOp;simp only [fo0,fo1];clear fo0 fo1;go_simp
     case g15=>
      intro v w1 hx;(repeat intro (zq:v _=_));intro bb hbb;have fo0:bb.eval (.tmp 167)=.bool false:=fza06
      have fo1:bb.eval (.tmp 170)=.bool false:=fza06
      clear hbb;refine ⟨_,fun w=>?_,rfl⟩;unfold execOp;simp only [fo0,fo1];clear fo0 fo1;go_simp
     case g16=>
      intro v w1 hx;(repeat intro (zq:v _=_));intro bb hbb;have fo0:bb.eval (.tmp 171)=.bool false:=fza06
      clear hbb;refine ⟨_,fun w=>?_,rfl⟩;unfold execOp;simp only [fo0];clear fo0;go_simp
     case g17=>
      intro v w1 hx;(repeat intro (zq:v _=_));intro bb hbb;refine Flow.Q0l (d:=172) rfl rfl fzb06 fzc06 ?_
      intro K2 hK2;have o1:bb.eval (.tmp 2)=.pointer (some ⟨gs,0,none⟩):=by rw [hbb]; dsimp only; (try simp (discharger:=decide) only [eval_put_ne]); rfl
      exact Q0p (.tmp 2) _ rfl Tryz.J4p Tryz.J3d o1 (KB.out.ext (hdr.trans hx)) rfl (hK2 _ _ (Ext.refl _) rfl)
     case g18=>
      intro v w1 hx;(repeat intro (zq:v _=_));intro bb hbb;refine Flow.Q0l (d:=172) rfl rfl fzb06 fzc06 ?_
      subst hbb;intro K2 hK2;go_simp;refine Q0e (Z9u w1 _ s (HSEA.out _ (H2.out.ext (hdr.trans hx))) HS.out) ?_;rintro e w2 ⟨u,rfl,hu,hx2⟩;exact ⟨_,rfl,hK2 _ _ hx2 hu⟩
     case g19=>
      intro v w1 hx;(repeat intro (zq:v _=_));intro bb hbb;refine Flow.Q0l (d:=172) rfl rfl fzb06 fzc06 ?_
      have fo0:bb.eval (.tmp 1)=.int .i64 need:=fzd06
      clear hbb;refine ⟨_,fun w=>?_,rfl⟩;unfold execOp;simp only [fo0];clear fo0;go_simp
     case g20=>
      intro v w1 hx;(repeat intro (zq:v _=_));intro bb hbb;refine Flow.Q0l (d:=172) rfl rfl fzb06 fzc06 ?_
      have fo0:bb.eval (.tmp 16)=.slice (some ⟨bg,og,none⟩) ng cg:=fzd06
      clear hbb;refine ⟨_,fun w=>?_,rfl⟩;unfold execOp;simp only [fo0];clear fo0;go_simp
     case g21=>
      intro v w1 hx (q16:v 16=_) _ (q20:v 20=_);intro bb hbb;refine Flow.Q0l (d:=172) rfl rfl fzb06 (by rw [hbb]; dsimp only; (try simp (discharger:=decide) only [eval_put_ne]); rw [Q0a (by simp only [size_put]; exact (by decide:172 < 212))]; exact q16) ?_
      intro K2 hK2;have o1:bb.eval (.tmp 176)=.slice (some ⟨bg,og,none⟩) ng cg:=by rw [hbb]; dsimp only; (try simp (discharger:=decide) only [eval_put_ne]); rw [Q0a (by simp only [size_put]; exact (by decide:176 < 212))]; exact q20
      refine X5o (x:=.tmp 176) rfl (enters_of Tryz.func75 (by kernel_rfl) rfl) o1 (Y5l w1 _ (gl) (FG.out.ext (hdr.trans hx)) (by have:=HLN.out; omega)) ?_
      rintro e w2 ⟨u,rfl,hu,hx2⟩;exact ⟨_,rfl,hK2 _ _ hx2 hu⟩
     case g22=>
      intro v w1 hx (q16:v 16=_) (q21:(fun v w'=>Q4j w' (v 21) (gl)) v w1);intro bb hbb;refine Flow.Q0l (d:=172) rfl rfl fzb06 (by rw [hbb]; dsimp only; (try simp (discharger:=decide) only [eval_put_ne]); rw [Q0a (by simp only [size_put]; exact (by decide:172 < 212))]; exact q16) ?_
      subst hbb;intro K2 hK2;go_simp;refine Q0e (J4y w1 _ (gl) q21 HLN.out HLM.out) ?_;rintro e w2 ⟨u,rfl,hu,hx2⟩;exact ⟨_,rfl,hK2 _ _ hx2 hu⟩
     case g23=>
      intro v w1 hx (q16:v 16=_) (q18:(fun v w'=>Q0h w' (v 18) s) v w1) (q19:v 19=_) (q22:(fun v w'=>Q4j w' (v 22) (gl)) v w1);intro bb hbb;refine Flow.Q0l (d:=172) rfl rfl fzb06 (by rw [hbb]; dsimp only; (try simp (discharger:=decide) only [eval_put_ne]); rw [Q0a (by simp only [size_put]; exact (by decide:172 < 212))]; exact q16) ?_
      subst hbb;intro K2 hK2;go_simp;refine Q0e (J2p w1 _ _ s need gl q18 q22 HS.out) ?_;rintro e w2 ⟨rfl,hx2⟩;exact ⟨_,rfl,hK2 _ _ hx2 (congrArg (Value.int .i64) HRO.out)⟩
     case g24=>
      intro v w1 hx;(repeat intro (zq:v _=_));intro bb hbb;refine Flow.Q0l (d:=172) rfl rfl fzb06 fzc06 ?_
      have fo0:bb.eval (.tmp 179)=.int .i64 0:=fza06
      clear hbb;refine ⟨_,fun w=>?_,rfl⟩;unfold execOp;simp only [fo0];clear fo0;go_simp
     case g25=>
      intro v w1 hx;(repeat intro (zq:v _=_));intro bb hbb;have fo0:bb.eval (.tmp 172)=.bool false:=fza06
      have fo1:bb.eval (.tmp 180)=.bool false:=fza06
      clear hbb;refine ⟨_,fun w=>?_,rfl⟩;unfold execOp;simp only [fo0,fo1];clear fo0 fo1;go_simp
     case g26=>
      intro v w1 hx;(repeat intro (zq:v _=_));intro bb hbb;have fo0:bb.eval (.tmp 181)=.bool false:=fza06
      clear hbb;refine ⟨_,fun w=>?_,rfl⟩;unfold execOp;simp only [fo0];clear fo0;go_simp
     case g27=>
      intro v w1 hx;(repeat intro (zq:v _=_));intro bb hbb;refine Flow.Q0l (d:=182) rfl rfl fzb06 fzc06 ?_
      intro K2 hK2;have o1:bb.eval (.tmp 2)=.pointer (some ⟨gs,0,none⟩):=by rw [hbb]; dsimp only; (try simp (discharger:=decide) only [eval_put_ne]); rfl
      exact Q0p (.tmp 2) _ rfl Tryz.J4p Tryz.J3d o1 (KB.out.ext (hdr.trans hx)) rfl (hK2 _ _ (Ext.refl _) rfl)
     case g28=>
      intro v w1 hx;(repeat intro (zq:v _=_));intro bb hbb;refine Flow.Q0l (d:=182) rfl rfl fzb06 fzc06 ?_
      subst hbb;intro K2 hK2;go_simp;refine Q0e (Z9u w1 _ s (HSEA.out _ (H2.out.ext (hdr.trans hx))) HS.out) ?_;rintro e w2 ⟨u,rfl,hu,hx2⟩;exact ⟨_,rfl,hK2 _ _ hx2 hu⟩
     case g29=>
      intro v w1 hx;(repeat intro (zq:v _=_));intro bb hbb;refine Flow.Q0l (d:=182) rfl rfl fzb06 fzc06 ?_
      have fo0:bb.eval (.tmp 1)=.int .i64 need:=fzd06
      clear hbb;refine ⟨_,fun w=>?_,rfl⟩;unfold execOp;simp only [fo0];clear fo0;go_simp
     case g30=>
      intro v w1 hx;(repeat intro (zq:v _=_));intro bb hbb;refine Flow.Q0l (d:=182) rfl rfl fzb06 fzc06 ?_
      have fo0:bb.eval (.tmp 16)=.slice (some ⟨bg,og,none⟩) ng cg:=fzd06
      clear hbb;refine ⟨_,fun w=>?_,rfl⟩;unfold execOp;simp only [fo0];clear fo0;go_simp
     case g31=>
      intro v w1 hx;(repeat intro (zq:v _=_));intro bb hbb;refine Flow.Q0l (d:=182) rfl rfl fzb06 fzc06 ?_
      have o1:bb.eval (.tmp 186)=.slice (some ⟨bg,og,none⟩) ng cg:=by rw [hbb]; dsimp only; (try simp (discharger:=decide) only [eval_put_ne]); rw [Q0a (by simp only [size_put]; exact (by decide:186 < 212))]; assumption
      refine ⟨.slice (some ap) (ng - 1) (cg - 1),fun w=>?_,rfl⟩;unfold execOp;simp only [o1];go_simp;rw [if_pos (show (1:Int) <= (ng:Int) by have:=HNC.out; omega),J7c HAP.out]
     case g32=>
      intro v w1 hx (q26:v 26=_) _ (q31:v 31=_);intro bb hbb;refine Flow.Q0l (d:=182) rfl rfl fzb06 (by rw [hbb]; dsimp only; (try simp (discharger:=decide) only [eval_put_ne]); rw [Q0a (by simp only [size_put]; exact (by decide:182 < 212))]; exact q26) ?_
      intro K2 hK2;have o1:bb.eval (.tmp 187)=.slice (some ap) (ng - 1) (cg - 1):=by rw [hbb]; dsimp only; (try simp (discharger:=decide) only [eval_put_ne]); rw [Q0a (by simp only [size_put]; exact (by decide:187 < 212))]; exact q31
      refine X5o (x:=.tmp 187) rfl (enters_of Tryz.func75 (by kernel_rfl) rfl) o1 (Y5l w1 _ (gl.drop 1) (HFT.out _ (FG.out.ext (hdr.trans hx))) (by have:=HTN.out; omega)) ?_
      rintro e w2 ⟨u,rfl,hu,hx2⟩;exact ⟨_,rfl,hK2 _ _ hx2 hu⟩
     case g33=>
      intro v w1 hx (q26:v 26=_) (q32:(fun v w'=>Q4j w' (v 32) (gl.drop 1)) v w1);intro bb hbb;refine Flow.Q0l (d:=182) rfl rfl fzb06 (by rw [hbb]; dsimp only; (try simp (discharger:=decide) only [eval_put_ne]); rw [Q0a (by simp only [size_put]; exact (by decide:182 < 212))]; exact q26) ?_
      subst hbb;intro K2 hK2;go_simp;refine Q0e (J4y w1 _ (gl.drop 1) q32 HTN.out HTM.out) ?_;rintro e w2 ⟨u,rfl,hu,hx2⟩;exact ⟨_,rfl,hK2 _ _ hx2 hu⟩
     case g34=>
      intro v w1 hx (q26:v 26=_) (q28:(fun v w'=>Q0h w' (v 28) s) v w1) (q29:v 29=_) (q33:(fun v w'=>Q4j w' (v 33) (gl.drop 1)) v w1);intro bb hbb;refine Flow.Q0l (d:=182) rfl rfl fzb06 (by rw [hbb]; dsimp only; (try simp (discharger:=decide) only [eval_put_ne]); rw [Q0a (by simp only [size_put]; exact (by decide:182 < 212))]; exact q26) ?_
      subst hbb;intro K2 hK2;go_simp;refine Q0e (J2p w1 _ _ s need (gl.drop 1) q28 q33 HS.out) ?_;rintro e w2 ⟨rfl,hx2⟩;exact ⟨_,rfl,hK2 _ _ hx2 (congrArg (Value.int .i64) HRT.out)⟩
     case g35=>
      intro v w1 hx;(repeat intro (zq:v _=_));intro bb hbb;refine Flow.Q0l (d:=182) rfl rfl fzb06 fzc06 ?_
      have fo0:bb.eval (.tmp 190)=.int .i64 22:=fza06
      clear hbb;refine ⟨_,fun w=>?_,rfl⟩;unfold execOp;simp only [fo0];clear fo0;go_simp
     case g36=>
      intro v w1 hx;(repeat intro (zq:v _=_));intro bb hbb;have fo0:bb.eval (.tmp 182)=.bool false:=fza06
      have fo1:bb.eval (.tmp 191)=.bool false:=fza06
      clear hbb;refine ⟨_,fun w=>?_,rfl⟩;unfold execOp;simp only [fo0,fo1];clear fo0 fo1;go_simp
    case post =>
     intro v w1 hx;(iterate 18 intro (zq:v _=_));intro (q18:(fun v w'=>Q0h w' (v 18) s) v w1);(iterate 2 intro (zq:v _=_));intro (q21:(fun v w'=>Q4j w' (v 21) (gl)) v w1) (q22:(fun v w'=>Q4j w' (v 22) (gl)) v w1);(iterate 5 intro (zq:v _=_));intro (q28:(fun v w'=>Q0h w' (v 28) s) v w1);(iterate 3 intro (zq:v _=_));intro (q32:(fun v w'=>Q4j w' (v 32) (gl.drop 1)) v w1) (q33:(fun v w'=>Q4j w' (v 33) (gl.drop 1)) v w1);(iterate 3 intro (zq:v _=_));simp only [Flow.All,Flow.acts,Act.put];go_simp;go_wp2_with fail;go_meet;exact ⟨rfl,hdr.trans hx⟩
   case rest =>
    obtain ⟨rfl,hcut⟩:=hcut;replace HXA:=hid (HXA.out.trans hcut);replace HWD:=hid (HWD.out.ext hcut);replace H2:=hid (H2.out.ext hcut);replace KB:=hid (KB.out.ext hcut);replace FG:=hid (FG.out.ext hcut);obtain ⟨z63,rfl⟩:∃ X,X=wc:=⟨_,rfl⟩;clear hcut;clear hn0 hnM hnMd hnN hnNd hle hled hgn hcg1 hcp;go_wp2_with fail;refine (Y5l _ _ gl FG.out (by have:=HLN.out; omega)).mono ?_
    rintro e z64 ⟨u1,rfl,hu,hx⟩;have hxx:Ext z63 z64:=hx;replace HXA:=hid (HXA.out.trans hxx);replace HWD:=hid (HWD.out.ext hxx);replace H2:=hid (H2.out.ext hxx);replace KB:=hid (KB.out.ext hxx);replace FG:=hid (FG.out.ext hxx);clear hx hxx;obtain ⟨X5,c5,rfl,-,-,-⟩:=hu.opened;rw [HNG.out] at hu ⊢;have HU:=hid hu;clear hu;have HWD0:=HWD;have H20:=H2;have KB0:=KB;have FG0:=FG;have HU0:=HU;have HXA0:=HXA;have hLM:∀ k,k < gl.length -> (Q5i gl k).length <= 4096:=fun k hk=>by have:=HLM.out k hk; omega
    go_wp2_with fail;refine (J5b _ _ gl HU.out (by have:=HLN.out; omega) hLM).mono ?_
    rintro e z65 hpo;unfold J5m at hpo;obtain ⟨u2,qs,rfl,how,hqs,hru,hxo⟩:=hpo;have hq0:0 < qs.length:=by rw [<- List.length_map (f:=(·.2)),hqs,HNG.out]; exact HGN.out.1
    obtain ⟨gw,cw,cur,rfl,hbg,hblk,hc,hm,hsz,htk⟩:=J8k how hq0;have hcl0:=J8c Y0z hblk htk (i:=0) (j:=1) hq0 (by decide)
    obtain ⟨wv,hwv⟩:∃ z,Q8d gl 0=z:=⟨_,rfl⟩;have hw0:qs[0].2.weight=wv:=by rw [<- hwv,Q8d,<- hqs,Q0v _ (by rw [List.length_map]; exact hq0),List.getElem_map]
    have hcl:z65.cell? ⟨gw,1,none⟩=some (.int .i64 wv):=by rw [show (1:Nat)=0 * 2 + 1 from rfl,hcl0,<- hw0]; rfl
    clear hcl0;have hfr:=hblk.frozen 1;have hput:=J8r (i:=0) (j:=1) (x:=.int .i64 (wv - 1)) (y:=(qs[0].1,⟨qs[0].2.members,wv - 1⟩)) Y0z hbg hc hm hsz htk hq0 (by decide:1 < 2) rfl (hblk.set (0 * 2 + 1) (.int .i64 (wv - 1)))
    have hrp:GrR (z65.setCell ⟨gw,1,none⟩ (.int .i64 (wv - 1))) (qs.set 0 (qs[0].1,⟨qs[0].2.members,wv - 1⟩)):=fun q hq=>Q8a ((hru.put (x:=wv - 1) hq0) q hq) hblk (by decide)
    rw [show (0 * 2 + 1:Nat)=1 from rfl] at hput
    have hlen:qs.length=ng:=by rw [<- List.length_map (f:=(·.2)),hqs,HNG.out]
    have hmap:(qs.set 0 (qs[0].1,⟨qs[0].2.members,wv - 1⟩)).map (·.2)=gl.set 0 ⟨Q5i gl 0,wv - 1⟩:=by rw [List.map_set,hqs]; congr 2; rw [Q5i,<- hqs,Q0v _ (by rw [List.length_map]; exact hq0),List.getElem_map]
    have hg0:0 < gl.length:=by rw [HNG.out]; exact HGN.out.1
    have hwb:=HGB.out gl[0] (List.getElem_mem hg0);have hwb2:0 <= wv /\ wv <= 8000:=by rw [<- hwv,Q8d,Q0v _ (by rw [HNG.out]; exact HGN.out.1)]; exact hwb
    have hwr:wrap64 (wv - 1)=wv - 1:=by unfold wrap64; omega
    have hgis:=J7v hput hmap hrp (by rw [List.length_set]; exact HLN.out) (J7q HLM.out)
    have hx0:Ext z64 (z65.setCell ⟨gw,1,none⟩ (.int .i64 (wv - 1))):=Ext.Y0h hxo (show z64.heap.size <= gw from hbg) _
    have HGI:=hid hgis;have HX0:=hid hx0;have HRF:=hid (HRL.out (wv - 1) (by rw [hwv]; omega))
    rw [hlen] at HGI ⊢;have h0I:(0:Int) < (ng:Int):=by have:=HGN.out; omega
    clear hgis hx0 hput hrp hmap hwb hwb2 hg0 hw0 hwv hlen hbg hc hm hsz htk how hqs hru hxo hblk;go_upto_region 29 with fail;obtain ⟨z66,hcu⟩:∃ Z,z65.setCell ⟨gw,1,none⟩ (.int .i64 (wv - 1))=Z:=⟨_,rfl⟩;rw [hcu] at HGI HX0 ⊢;replace HXA:=hid (HXA0.out.trans HX0.out);replace HWD:=hid (HWD0.out.ext HX0.out);replace H2:=hid (H20.out.ext HX0.out);replace KB:=hid (KB0.out.ext HX0.out);replace FG:=hid (FG0.out.ext HX0.out);replace HU:=hid (HU0.out.ext HX0.out);clear hcu hcl hfr hwr h0I;have FLS:=hid HGI.out;have d0KB:=KB.out.cell 0;have d1KB:=KB.out.cell 1;have d2KB:=KB.out.cell 2;simp only [Go.Tw.gA,Go.Tw.gB,Go.Tw.gC] at d0KB d1KB d2KB;go_wp2_with fail;refine (Z9u _ _ s (HSEA.out _ H2.out) HS.out).mono ?_;rintro e z67 ⟨g5,rfl,hg,hx⟩;have hxx:Ext z66 z67:=hx;replace HXA:=hid (HXA.out.trans hxx);replace HWD:=hid (HWD.out.ext hxx);replace H2:=hid (H2.out.ext hxx);replace KB:=hid (KB.out.ext hxx);replace FG:=hid (FG.out.ext hxx);replace HU:=hid (HU.out.ext hxx);replace FLS:=hid (FLS.out.ext hxx);clear hx hxx d0KB d1KB d2KB;have HG:=hid hg;clear hg;go_wp2_with fail;refine (J2p _ _ _ s need _ HG.out FLS.out HS.out).mono ?_;rintro e z68 ⟨rfl,hx⟩;have hxx:Ext z67 z68:=hx;replace HXA:=hid (HXA.out.trans hxx);replace HWD:=hid (HWD.out.ext hxx);replace H2:=hid (H2.out.ext hxx);replace KB:=hid (KB.out.ext hxx);replace FG:=hid (FG.out.ext hxx);replace HU:=hid (HU.out.ext hxx);replace FLS:=hid (FLS.out.ext hxx);replace HG:=hid (HG.out.ext hxx);clear hx hxx;rw [HRF.out];go_wp2_with fail;refine (J0d _ HWD.out).mono ?_;rintro e z69 ⟨rfl,hx⟩;have hxx:Ext z68 z69:=hx;replace HXA:=hid (HXA.out.trans hxx);replace HWD:=hid (HWD.out.ext hxx);replace H2:=hid (H2.out.ext hxx);replace KB:=hid (KB.out.ext hxx);replace FG:=hid (FG.out.ext hxx);replace HU:=hid (HU.out.ext hxx);replace FLS:=hid (FLS.out.ext hxx);replace HG:=hid (HG.out.ext hxx);clear hx hxx;go_wp2;go_ret;exact ⟨rfl,HXA.out⟩
end Go.Proofs
