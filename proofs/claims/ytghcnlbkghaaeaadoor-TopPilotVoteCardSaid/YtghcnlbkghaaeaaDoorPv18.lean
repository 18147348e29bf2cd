/- The law TopPilotVote's own functions: pilotVote. The part of a function's body from a region on: a great walk is cut into theorems there. The walk through TopPilotVote from region 19 on: the sum of the ways, and the sizes of the cut sets. The walk through TopPilotVote from region 12 on: the vote, the tree, and what is asked of them. The law TopPilotVote: the call returns true. What an argument of three bytes reads as. The law TopPilotVote: for every input the call returns true, and each argument reads afterwards as before: the row's statement, and its tied card. The listed tables of math/bits are as the program's text lays them. -/
import Derived.Test.YtghcnlbkghaaeaaDoorPv17
import Derived.Test.YtghcnlbkghaaeaaDoorPv06
import Derived.Test.YtghcnlbkghaaeaaDoorPv01
import Derived.Test.YtghcnlbkghaaeaaDoorPv14
import Derived.Deep.DeepCutAuto
import Derived.Maps.AppendAt
import Derived.Test.YtghcnlbkghaaeaaDoorPv11
import Derived.OpenShut
set_option maxRecDepth 1000000
set_option maxHeartbeats 64000000
set_option linter.unusedVariables false
set_option linter.unusedSimpArgs false
set_option linter.constructorNameAsVariable false
namespace Go.Proofs
open Go.RowKit Go.Tw Go.Flow
theorem Y1p:lowest (sumTo 3 4 4:Nat) (Q4h 16 3:Nat) = ⟨5,32⟩:=by decide +kernel
theorem X7v (w:World) (u:Value) (hu:IsTree w u (Q0e 3 4)) :
    Calls Tryd.prog 20 #[u] w fun e w'=>e = .returned (.tuple #[.agg #[.int .i64 5,.int .i64 32],.int .i64 0]) /\ Ext w w':=by
 have h:=X6y w u 3 4 (by omega) (by omega) (by omega) hu
 rw [Y1p] at h;exact h
theorem Y2s (w:World) (v:Value) (hv:IsInts w v [10,10,12]) :
    Calls Tryd.prog 17 #[v] w fun e w'=>e = .returned (.tuple #[.int .i64 10,.int .i64 0]) /\ Ext w w':=by
 have h:=X4d w v _ hv (by simp) (by simp)
 rw [show X2b [10,10,12] = 10 by decide,show X2r [10,10,12] = 0 by decide] at h
 exact h
theorem Q3x (w:World) (a b c d:Int):(binOp .eql 74 (.agg #[.int .i64 a,.int .i64 b]) (.agg #[.int .i64 c,.int .i64 d])).run Tryd.prog w = .ok (.bool (a == c && b == d)) w:=Q7a w ⟨a,b⟩ ⟨c,d⟩
attribute [local go_sem ↓] Q3x
theorem Q9j (w:World) :
    Calls Tryd.prog 16 #[] w fun e w'=>e = .returned (.bool true) /\ Ext w w':=by
 go_enter Tryd.func16,Tryd.ntmps16;go_wp2_with fail;refine (Y2s _ _ (Q2k (l:=[10,10,12]) (by simp))).mono ?_
 rintro e w1 ⟨rfl,hx1⟩;have HX1:=Lib.hid (Ext.trans (Ext.box w _) hx1);clear hx1;go_wp2_with fail;refine (Q1b _ 3 4 (by omega)).mono ?_
 rintro e w2 ⟨u,rfl,hu,hx2⟩;have HU:=Lib.hid hu;obtain ⟨a,b,c,rfl,_⟩:=hu;have HX2:=Lib.hid (HX1.out.trans hx2);clear hx2 HX1;go_wp2_with fail;refine (X7v _ _ HU.out).mono ?_;rintro e w3 ⟨rfl,hx3⟩;have HX3:=Lib.hid (HX2.out.trans hx3);clear hx3 HX2;have hb:=Blk.made w3 74 #[.int .i64 5,.int .i64 32];have c0:=hb.cell 0;have c1:=hb.cell 1;simp only [Go.Tw.gA,Go.Tw.gB,Go.Tw.gC] at c0 c1;clear hb;go_wp2;go_ret;exact ⟨rfl,HX3.out.trans (Ext.box _ _)⟩
end Go.Proofs
namespace Go.Tw
def Y0o (k:Nat):Code -> Bool
 | .region n _ _=>Nat.beq n k
 | .seq a _=>Y0o k a
 | _=>false
def Y0r (k:Nat):Code -> Option Code
 | .seq a b=>if Y0o k a = true then some (.seq a b) else Y0r k b
 | _=>none
noncomputable def codeFrom (fn:Func) (k:Nat):Code:=((fn.body.bind (Y0r k)).getD .skip)
end Go.Tw
namespace Go.Proofs
open Go.RowKit Go.Tw Go.Flow
attribute [local go_sem] Oper.semAt_some
theorem Y0q {F:Array Value} (h:F.size = 213):∃ u:Nat -> Value,F = #[u 0,u 1,u 2,u 3,u 4,u 5,u 6,u 7,u 8,u 9,u 10,u 11,u 12,u 13,u 14,u 15,u 16,u 17,u 18,u 19,u 20,u 21,u 22,u 23,u 24,u 25,u 26,u 27,u 28,u 29,u 30,u 31,u 32,u 33,u 34,u 35,u 36,u 37,u 38,u 39,u 40,u 41,u 42,u 43,u 44,u 45,u 46,u 47,u 48,u 49,u 50,u 51,u 52,u 53,u 54,u 55,u 56,u 57,u 58,u 59,u 60,u 61,u 62,u 63,u 64,u 65,u 66,u 67,u 68,u 69,u 70,u 71,u 72,u 73,u 74,u 75,u 76,u 77,u 78,u 79,u 80,u 81,u 82,u 83,u 84,u 85,u 86,u 87,u 88,u 89,u 90,u 91,u 92,u 93,u 94,u 95,u 96,u 97,u 98,u 99,u 100,u 101,u 102,u 103,u 104,u 105,u 106,u 107,u 108,u 109,u 110,u 111,u 112,u 113,u 114,u 115,u 116,u 117,u 118,u 119,u 120,u 121,u 122,u 123,u 124,u 125,u 126,u 127,u 128,u 129,u 130,u 131,u 132,u 133,u 134,u 135,u 136,u 137,u 138,u 139,u 140,u 141,u 142,u 143,u 144,u 145,u 146,u 147,u 148,u 149,u 150,u 151,u 152,u 153,u 154,u 155,u 156,u 157,u 158,u 159,u 160,u 161,u 162,u 163,u 164,u 165,u 166,u 167,u 168,u 169,u 170,u 171,u 172,u 173,u 174,u 175,u 176,u 177,u 178,u 179,u 180,u 181,u 182,u 183,u 184,u 185,u 186,u 187,u 188,u 189,u 190,u 191,u 192,u 193,u 194,u 195,u 196,u 197,u 198,u 199,u 200,u 201,u 202,u 203,u 204,u 205,u 206,u 207,u 208,u 209,u 210,u 211,u 212]:=by
 refine ⟨fun i=>F.getD i undef,?_⟩;have e:F = ((List.range 213).map fun i=>F.getD i undef).toArray:=by
  apply Array.ext
  . simp [h]
  . intro i h1 h2
    simp [h1]
 exact e.trans (by kernel_rfl)
theorem X9i {n c m:Nat} (h1:1 <= n) (hn:n <= 9) (hc:c <= 16) (hm:m <= n + 1):Q0w n m <= 126 /\ Q0w n m * c ^ m <= 1152921504606846976 /\ Y0a n c m <= 1152921504606846976 /\ sumTo n c m <= 1152921504606846976:=by
 have h:=List.all_eq_true.1 Y0y (n - 1) (List.mem_range.2 (by omega))
 have h:=List.all_eq_true.1 h c (List.mem_range.2 (by omega))
 have h:=List.all_eq_true.1 h m (List.mem_range.2 (by omega))
 rw [show n - 1 + 1 = n by omega] at h
 simp only [Bool.and_eq_true,decide_eq_true_eq] at h;exact ⟨h.1.1.1,h.1.1.2,h.1.2,h.2⟩
theorem Nat.Q7u (k:Nat):1 <= Q4h 16 k:=Nat.one_le_iff_ne_zero.2 (Nat.pos_iff_ne_zero.1 (Nat.pow_pos (by omega)))
theorem X5i (n c m:Nat):sumTo n c (m + 1) = sumTo n c m + if Q0m n <= m then Q0w n m * c ^ m * (16 - c) ^ (n - m) else 0:=rfl
theorem X2l (n m:Nat):Q0w n (m + 1) = Q0w n m * (n - m) / (m + 1):=rfl
attribute [local go_sem ↓] Q3x
theorem X6g (W0 WB:World) (k c nd gr cc:Nat) (Ac:Option Addr) (rn rd:Int) (ll:List (List Int)) (hk1:1 <= k) (hk9:k <= 9) (hc16:c <= 16) (hnd:Q0m k = nd) (hrn:(lowest (sumTo k c (k + 1):Nat) (Q4h 16 k:Nat)).num = rn) (hrd:(lowest (sumTo k c (k + 1):Nat) (Q4h 16 k:Nat)).den = rd)
    (hl:ll.length = Q0w k nd) (hcm:∀ l ∈ ll,l.length = nd) (hcu:IsIntss WB (.slice Ac (Q0w k nd) cc) ll) (hkr:Blk WB gr 74 #[.int .i64 rn,.int .i64 rd]) (hx0:Ext W0 WB) (F:Array Value) (hF:F.size = 213) (f5:F[5]? = some (.int .i64 k)) (f6:F[6]? = some (.int .i64 c)) (f15:F[15]? = some (.pointer (some ⟨gr,0,none⟩))) (f17:F[17]? = some (.slice Ac (Q0w k nd) cc)) :
    (codeFrom Tryd.f4 19).wp Tryd.prog (bodyPost Tryd.prog Tryd.f4 (fun e w'=>e = .returned (.bool true) /\ Ext W0 w')) ⟨F,[]⟩ WB:=by
 obtain ⟨u,rfl⟩:=Y0q hF;replace f5:u 5 = _:=Option.some.inj f5;replace f6:u 6 = _:=Option.some.inj f6;replace f15:u 15 = _:=Option.some.inj f15;replace f17:u 17 = _:=Option.some.inj f17;rw [f5,f6,f15,f17];clear hF f5 f6 f15 f17
 conv=>arg 2; whnf
 have HND:=Lib.hid hnd;have HRN:=Lib.hid hrn;have HRD:=Lib.hid hrd;have HL:=Lib.hid hl;have HCM:=Lib.hid hcm;have HCU:=Lib.hid hcu;have KR:=Lib.hid hkr;have HW0:=Lib.hid hx0;have hnd5:nd <= 5:=by rw [<- hnd]; unfold Q0m; omega
 have hndk:nd <= k:=by rw [<- hnd]; unfold Q0m; omega
 have htd:((k:Int) + 1).tdiv 2 = (nd:Int):=by
  rw [<- hnd];unfold Q0m;rw [show (k:Int) + 1 = ((k + 1:Nat):Int) by omega]
  exact (Int.ofNat_tdiv (k + 1) 2).symm
 have hwq:wrap64 (nd:Int) = nd:=by unfold wrap64; omega
 have HB:=Lib.hid (fun m hm=>X9i (m:=m) hk1 hk9 hc16 hm);clear hnd hrn hrd hl hcm hcu hkr hx0;go_wp2_with fail;clear hwq htd
 go_loopw [22,23,158] (fun x y i wr=>∃ (m:Nat),m <= k + 1 /\ i = .int .i64 (m:Int) /\ x = .int .i64 (sumTo k c m:Nat) /\ y = .int .i64 (Q0w k m:Nat) /\ WB = wr) (fun _ _ i _=>k + 1 - (intOf i).toNat)
 case atStart=>exact ⟨0,Nat.zero_le _,rfl,rfl,rfl,rfl⟩
 case round =>
  obtain ⟨m,hm,rfl,rfl,rfl,rfl⟩:=hrel
  by_cases hlt:m < k + 1
  . have hltI:(m:Int) < (k:Int) + 1:=by omega
    have hmk:m <= k:=by omega
    have hb:=HB.out m (by omega)
    have hb2:=HB.out (m + 1) (by omega)
    have hkm:(k:Int) - (m:Int) = ((k - m:Nat):Int):=by omega
    have hcs:(16:Int) - (c:Int) = ((16 - c:Nat):Int):=by omega
    have HP1:=Lib.hid (fun w:World=>Q2q w c m hc16 (by omega))
    have HP2:Hid (∀ w:World,Calls Tryd.prog 23 #[.int .i64 ((16 - c:Nat):Int),.int .i64 ((k - m:Nat):Int)] w fun e w'=>e = .returned (.int .i64 (Q4h (16 - c) (k - m))) /\ w = w'):=Lib.hid (fun w=>Q2q w (16 - c) (k - m) (by omega) (by omega))
    have hss:=X5i k c m;rw [HND.out] at hss;have hws:=X2l k m;have hW1:=hb.1;have hq1:Q0w k m * Q4h c m <= 1152921504606846976:=hb.2.1;have hq2:Q0w k m * Q4h c m * Q4h (16 - c) (k - m) <= 1152921504606846976:=hb.2.2.1;have hS1:=hb.2.2.2;have hS2:=hb2.2.2.2;have hss2:sumTo k c (m + 1) = sumTo k c m + if nd <= m then Q0w k m * Q4h c m * Q4h (16 - c) (k - m) else 0:=hss
    have hwn:m = nd -> Q0w k nd = Q0w k m:=fun h=>by rw [h]
    obtain ⟨q0,hq0⟩:∃ x,Q0w k m * (k - m) = x:=⟨_,rfl⟩;have hq0b:q0 <= 1134:=by
     rw [<- hq0];exact Nat.le_trans (Nat.mul_le_mul hW1 (show k - m <= 9 by omega)) (by decide)
    rw [hq0] at hws;obtain ⟨W,hW⟩:∃ x,Q0w k m = x:=⟨_,rfl⟩;obtain ⟨S,hS⟩:∃ x,sumTo k c m = x:=⟨_,rfl⟩;obtain ⟨p1,hp1⟩:∃ x,Q4h c m = x:=⟨_,rfl⟩;obtain ⟨p2,hp2⟩:∃ x,Q4h (16 - c) (k - m) = x:=⟨_,rfl⟩;rw [hp1] at HP1;rw [hp2] at HP2;rw [hW,hp1] at hq1;rw [hW,hp1,hp2] at hq2;rw [hW,hS,hp1,hp2] at hss2;rw [hW] at hW1 hq0 hwn ⊢;rw [hS] at hS1 ⊢;obtain ⟨x1,hx1⟩:∃ x,W * p1 = x:=⟨_,rfl⟩;obtain ⟨x2,hx2⟩:∃ x,x1 * p2 = x:=⟨_,rfl⟩;rw [hx1] at hq1 hq2 hss2;rw [hx2] at hq2 hss2;obtain ⟨km,hkme⟩:∃ x,k - m = x:=⟨_,rfl⟩;obtain ⟨cs,hcse⟩:∃ x,16 - c = x:=⟨_,rfl⟩;rw [hkme] at hkm HP2 hq0;rw [hcse] at hcs HP2;have e1:(W:Int) * (p1:Int) = (x1:Int):=by rw [<- hx1]; simp
    have e2:(x1:Int) * (p2:Int) = (x2:Int):=by rw [<- hx2]; simp
    have e3:(W:Int) * (km:Int) = (q0:Int):=by rw [<- hq0]; simp
    have e4:(q0:Int).tdiv ((m:Int) + 1) = ((q0 / (m + 1):Nat):Int):=by
     rw [show (m:Int) + 1 = ((m + 1:Nat):Int) by omega]
     exact (Int.ofNat_tdiv q0 (m + 1)).symm
    have hm1:¬ ((m:Int) + 1 = 0):=by omega
    have hq4:q0 / (m + 1) <= q0:=Nat.div_le_self _ _;obtain ⟨q4,hq4e⟩:∃ x,q0 / (m + 1) = x:=⟨_,rfl⟩;rw [hq4e] at e4 hq4 hws;have HWS:=Lib.hid hws;have hkmb:km <= 9:=by omega
    have hcsb:cs <= 16:=by omega
    clear hb hb2 hss hW hS hp1 hp2 hx1 hx2 hkme hcse hq0 hq4e hws
    by_cases hge:nd <= m
    . have hgeI:(nd:Int) <= (m:Int):=by omega
      rw [if_pos hge] at hss2;have hSS:=Lib.hid hss2;have hsb:S + x2 <= 1152921504606846976:=by omega
      have hsw:IntKind.i64.wrap ((S:Int) + (x2:Int)) = ((S + x2:Nat):Int):=by rw [wrap_in (by omega) (by omega)]; omega
      by_cases hmn:m = nd
      . have hme:((m:Int) == (nd:Int)) = true:=by rw [hmn]; simp
        have hwl:=hwn hmn;have hne:(((Q0w k nd:Nat):Int) != (W:Int)) = false:=by rw [hwl]; simp
        clear hwn hss2 hwl hmn
        go_light
        go_wp2_with fail;refine (HP1.out _).mono ?_;rintro e w9 ⟨rfl,rfl⟩;go_wp2_with fail;refine (HP2.out _).mono ?_;rintro e w9 ⟨rfl,rfl⟩;go_wp2_with fail;go_roundw
        case rel=>exact ⟨m + 1,by omega,by go_num,by rw [hSS.out,Int.natCast_add],by rw [HWS.out],trivial⟩
        case measure=>simp [intOf]; omega
      . have hme:((m:Int) == (nd:Int)) = false:=by rw [beq_eq_false_iff_ne]; omega
        clear hwn hss2 hmn
        go_light
        go_wp2_with fail;refine (HP1.out _).mono ?_;rintro e w9 ⟨rfl,rfl⟩;go_wp2_with fail;refine (HP2.out _).mono ?_;rintro e w9 ⟨rfl,rfl⟩;go_wp2_with fail;go_roundw
        case rel=>exact ⟨m + 1,by omega,by go_num,by rw [hSS.out,Int.natCast_add],by rw [HWS.out],trivial⟩
        case measure=>simp [intOf]; omega
    . have hgeI:¬ (nd:Int) <= (m:Int):=by omega
      have hme:((m:Int) == (nd:Int)) = false:=by rw [beq_eq_false_iff_ne]; omega
      rw [if_neg hge] at hss2;have hSS:Hid (sumTo k c (m + 1) = S):=Lib.hid hss2;clear hwn hss2
      go_light
      go_wp2;go_roundw
      case rel=>exact ⟨m + 1,by omega,by go_num,by rw [hSS.out],by rw [HWS.out],trivial⟩
      case measure=>simp [intOf]; omega
  . have hkn:m = k + 1:=by omega
    subst hkn;have hbb:=HB.out (k + 1) (by omega)
    have HSB:=Lib.hid hbb.2.2.2;clear hbb;obtain ⟨S,hS⟩:∃ x,sumTo k c (k + 1) = x:=⟨_,rfl⟩;rw [hS] at HSB HRN HRD ⊢;obtain ⟨A1,cap1,he1,_,_,hcells⟩:=HCU.out.opened;have HCC:=Lib.hid hcells;have hle1:=HL.out;obtain ⟨wy,hwy⟩:∃ x,Q0w k (k + 1) = x:=⟨_,rfl⟩;rw [hwy];clear hcells hwy hS;have hw126:Q0w k nd <= 126:=(HB.out nd (by omega)).1
    obtain ⟨nl,hnl⟩:∃ x,Q0w k nd = x:=⟨_,rfl⟩;rw [hnl] at he1 hle1 hw126 HCU ⊢;cases he1;clear hnl HL HB HND;go_wp2_with fail
    go_loopw [198] (fun i wr=>∃ (j:Nat),j <= ll.length /\ i = .int .i64 (j:Int) /\ WB = wr) (fun i _=>ll.length - (intOf i).toNat)
    case atStart=>exact ⟨0,Nat.zero_le _,rfl,rfl⟩
    case round =>
     obtain ⟨j,hj,rfl,rfl⟩:=hrel
     by_cases hjl:j < ll.length
     . have hjI:(j:Int) < (ll.length:Int):=by omega
       obtain ⟨b,off,x,rfl,_,hcell,hxx⟩:=HCC.out j hjl;have hln:=HCM.out _ (show ll.getD j [] ∈ ll by rw [getD_of _ hjl]; exact List.getElem_mem hjl)
       obtain ⟨Ax,cx,rfl,_,_,_⟩:=hxx.opened;rw [hln] at hcell;have hne:(((nd:Nat):Int) != (nd:Int)) = false:=by simp
       clear hxx hln
       go_light
       go_wp2;go_roundw
       case rel=>exact ⟨j + 1,by omega,by go_num,trivial⟩
       case measure=>simp [intOf]; omega
     . have hjI:¬ (j:Int) < (ll.length:Int):=by omega
       have hLA:Hid (∀ w:World,Calls Tryd.prog 24 #[.int .i64 (S:Int),.int .i64 (Q4h 16 k:Nat)] w fun e w'=>e = .returned (.agg #[.int .i64 rn,.int .i64 rd]) /\ Ext w w'):=Lib.hid (fun w=>by
        have h16:1 <= Q4h 16 k /\ Q4h 16 k <= 281474976710656:=⟨Nat.Q7u k,X0e (a:=16) (by omega) (Nat.le_refl k) (by omega)⟩
        have h:=X5t w (S:Int) (Q4h 16 k:Nat) (by omega) (by have:=HSB.out; omega) (by omega) (by omega)
        rw [HRN.out,HRD.out] at h;exact h)
       have HPW:=Lib.hid (fun w:World=>Q2q w 16 k (by omega) (by omega))
       obtain ⟨W2,hW2⟩:∃ X,WB = X:=⟨_,rfl⟩;rw [hW2] at KR HW0 ⊢;have hdr:=(Ext.refl W2).drew;clear HCC HCM HCU hW2;go_wp2;refine Flow.X3r [.w,.p,.p,.w,.w,.p,.p] [0,1,2,3,4,5,6] [[],[],[],[2],[1,3],[0,4],[0,1,2,3,4,5]]
        [.c 0 (.agg #[.int .i64 rn,.int .i64 rd]),.c 1 (.int .i64 (S:Int)),.c 2 (.int .i64 (k:Int)),.c 3 (.int .i64 (Q4h 16 k:Nat)),.c 4 (.agg #[.int .i64 rn,.int .i64 rd]),.c 5 (.bool (rn == rn && rd == rd)),.c 6 (.bool (rn == rn && rd == rd))]
        (by kernel_rfl) rfl (by kernel_rfl) ⟨?g0,?g1,?g2,?g3,?g4,?g5,?g6,trivial⟩ ?post
       case g0=>
        intro v w1 hx;intro bb hbb;intro K hK;have o1:bb.eval (.tmp 15) = .pointer (some ⟨gr,0,none⟩):=by rw [hbb]; dsimp only; (try simp (discharger:=decide) only [eval_put_ne]); rfl
        exact Q1c (.tmp 15) _ rfl Tryd.X3v Tryd.Q4n o1 (KR.out.ext (hdr.trans hx)) rfl (hK _ _ (Ext.refl _) rfl)
       case g1 | g2=>
        intro v w1 hx;intro bb hbb;subst hbb;refine ⟨_,fun w=>?_,rfl⟩;go_simp
       case g3=>
        intro v w1 hx;(repeat intro (zq:v _ = _));intro bb hbb;subst hbb;intro K hK;go_simp;refine Q0b (HPW.out w1) ?_;rintro e w2 ⟨rfl,rfl⟩;exact ⟨_,rfl,hK _ _ (Ext.refl _) rfl⟩
       case g4=>
        intro v w1 hx;(repeat intro (zq:v _ = _));intro bb hbb;subst hbb;intro K hK;go_simp;refine Q0b (hLA.out w1) ?_;rintro e w2 ⟨rfl,hx2⟩;exact ⟨_,rfl,hK _ _ hx2 rfl⟩
       case g5 | g6=>
        intro v w1 hx;(repeat intro (zq:v _ = _));intro bb hbb;subst hbb;refine ⟨_,fun w=>?_,rfl⟩;go_simp
       case post =>
        intro v w1 hx;(iterate 7 intro (zq:v _ = _));simp only [Flow.All,Flow.acts,Act.put];go_simp;have HX9:=Lib.hid (HW0.out.trans (hdr.trans hx));clear hx hdr;(repeat clear zq);go_wp2;go_ret;exact ⟨rfl,HX9.out⟩
end Go.Proofs
namespace Go.Proofs
open Go.RowKit Go.Tw Go.Flow
theorem X5v (s n:Nat) (hn:n <= 16):Q1o s n = bitsOf (s % 2 ^ n):=by
 rw [<- X4w (s % 2 ^ n) n (Nat.mod_lt _ (Nat.two_pow_pos n)) hn];unfold Q1o
 congr 1
 refine List.filter_congr fun i hi=>?_;rw [Nat.testBit_mod_two_pow,decide_eq_true (List.mem_range.1 hi),Bool.true_and]
theorem Y0f (s n:Nat):Q2l n (s % 2 ^ n) = Q2l n s:=by
 unfold Q2l;refine List.countP_congr fun i hi=>?_;rw [Nat.testBit_mod_two_pow,decide_eq_true (List.mem_range.1 hi),Bool.true_and]
theorem X7f (s:Nat) {n:Nat} {r:Int} (hn:n <= 100) (h1:100 <= r) (h2:r < 400):∀ x ∈ Q3m n s r,0 <= x /\ x <= 1000:=by
 intro x hx;unfold Q3m at hx;obtain ⟨i,hi,rfl⟩:=List.mem_map.1 hx;have:=List.mem_range.1 hi;unfold X1h
 split <;> omega
theorem Y1s (W0 WB:World) (k c s lf cp cf:Nat) (Ap Af:Option Addr) (r:Int) (hn1:1 <= k) (hn9:k <= 9) (hc16:c <= 16) (hr1:100 <= r) (hr2:r < 400) (hpi:IsInts WB (.slice Ap k cp) (Q3m k s r)) (hfi:IsInts WB (.slice Af lf cf) (bitsOf (s % 2 ^ k))) (hT:Tab WB) (hx0:Ext W0 WB)
    (F:Array Value) (hF:F.size = 213) (f5:F[5]? = some (.int .i64 k)) (f6:F[6]? = some (.int .i64 c)) (f7:F[7]? = some (.int .i64 r)) (f8:F[8]? = some (.slice Ap k cp)) (f9:F[9]? = some (.slice Af lf cf)) :
    (codeFrom Tryd.f4 12).wp Tryd.prog (bodyPost Tryd.prog Tryd.f4 (fun e w'=>e = .returned (.bool true) /\ Ext W0 w')) ⟨F,[]⟩ WB:=by
 obtain ⟨u,rfl⟩:=Y0q hF;replace f5:u 5 = _:=Option.some.inj f5;replace f6:u 6 = _:=Option.some.inj f6;replace f7:u 7 = _:=Option.some.inj f7;replace f8:u 8 = _:=Option.some.inj f8;replace f9:u 9 = _:=Option.some.inj f9;rw [f5,f6,f7,f8,f9];clear hF f5 f6 f7 f8 f9
 conv=>arg 2; whnf
 have HPI:=Lib.hid hpi;have HFI:=Lib.hid hfi;have HTAB:=Lib.hid hT;have HX:=Lib.hid hx0;clear hpi hfi hT hx0;have HS2:Hid (s % 2 ^ k < 2 ^ k):=Lib.hid (Nat.mod_lt _ (Nat.two_pow_pos k));have hVR:=X4x (n:=k) (s:=s) hr2;have hPM:Q2l k (s % 2 ^ k) = Q2l k s:=Y0f s k;have HVA:=Lib.hid (fun (w:World) (v:Value) (hv:IsInts w v (Q3m k s r))=>X4d w v (Q3m k s r) hv (by simp [Q3m]; omega) (X7f s (by omega) hr1 hr2))
 have HVF:=Lib.hid (fun (w:World) (u v:Value) (hu:IsTree w u (Q0e k c)) (hv:IsInts w v (bitsOf (s % 2 ^ k)))=>Y1q w u v k c (s % 2 ^ k) hn1 hn9 hc16 HS2.out hu hv);rw [hPM] at HVF;obtain ⟨isF,hisF⟩:∃ x,decide (Q0m k <= Q2l k s) = x:=⟨_,rfl⟩;rw [hisF] at HVF;obtain ⟨V,hV⟩:∃ x,X2b (Q3m k s r) = x:=⟨_,rfl⟩;obtain ⟨E,hE⟩:∃ x,X2r (Q3m k s r) = x:=⟨_,rfl⟩;rw [hV,hE] at HVA;have HVE:Hid ((E = 0 /\ (V == r) = !isF) ∨ (E = 7 /\ isF = true)):=Lib.hid (by
  rw [<- hV,<- hE,<- hisF];cases hvp:Q7c (Q3m k s r) with
  | none =>
    refine .inr ⟨(Q5f hvp).2,?_⟩;rw [hvp] at hVR;exact decide_eq_true (Decidable.byContradiction fun h=>by have:=hVR.2 h; cases this)
  | some x =>
    refine .inl ⟨(Q4c hvp).2,?_⟩;rw [(Q4c hvp).1];rw [hvp] at hVR
    by_cases hq:Q0m k <= Q2l k s
    . rw [decide_eq_true hq]
      have:x ≠ r:=fun e=>absurd hq (hVR.1 (by rw [e]))
      simpa using this
    . rw [decide_eq_false hq]
      have:=hVR.2 hq;injection this with this;rw [this];simp)
 clear hV hE hisF hVR hPM;go_wp2_with fail;refine (HVA.out _ _ HPI.out).mono ?_;rintro e w1 ⟨rfl,hx⟩;have hxx:Ext WB w1:=hx;replace HX:=Lib.hid (HX.out.trans hxx);clear HPI;replace HFI:=Lib.hid (HFI.out.ext hxx);replace HTAB:=Lib.hid (HTAB.out.ext hxx);clear hx hxx;go_wp2_with fail;refine (Q1b _ k (c:Int) (by omega)).mono ?_
 rintro e w2 ⟨u,rfl,hu,hx⟩;have hxx:Ext w1 w2:=hx;replace HX:=Lib.hid (HX.out.trans hxx);replace HFI:=Lib.hid (HFI.out.ext hxx);replace HTAB:=Lib.hid (HTAB.out.ext hxx);have HU:=Lib.hid (hu);obtain ⟨ua,ub,uc,rfl,_⟩:=hu;clear hx hxx;go_wp2_with fail;refine (HVF.out _ _ _ HU.out HFI.out).mono ?_;rintro e w3 ⟨rfl,hx⟩;have hxx:Ext w2 w3:=hx;replace HX:=Lib.hid (HX.out.trans hxx);clear HFI;replace HTAB:=Lib.hid (HTAB.out.ext hxx);replace HU:=Lib.hid (HU.out.ext hxx);clear hx hxx;clear HU;go_wp2_with fail;refine (Q1b _ k (c:Int) (by omega)).mono ?_
 rintro e w4 ⟨u,rfl,hu,hx⟩;have hxx:Ext w3 w4:=hx;replace HX:=Lib.hid (HX.out.trans hxx);replace HTAB:=Lib.hid (HTAB.out.ext hxx);have HU:=Lib.hid (hu);obtain ⟨ua,ub,uc,rfl,_⟩:=hu;clear hx hxx;go_wp2_with fail;refine (X6y _ _ k c hn1 hn9 hc16 HU.out).mono ?_;rintro e w5 ⟨rfl,hx⟩;have hxx:Ext w4 w5:=hx;replace HX:=Lib.hid (HX.out.trans hxx);replace HTAB:=Lib.hid (HTAB.out.ext hxx);replace HU:=Lib.hid (HU.out.ext hxx);clear hx hxx;clear HU;obtain ⟨rn,hrn⟩:∃ x,(lowest (sumTo k c (k + 1):Nat) (Q4h 16 k:Nat)).num = x:=⟨_,rfl⟩;obtain ⟨rd,hrd⟩:∃ x,(lowest (sumTo k c (k + 1):Nat) (Q4h 16 k:Nat)).den = x:=⟨_,rfl⟩;have HRN:=Lib.hid hrn;have HRD:=Lib.hid hrd;rw [hrn,hrd];clear hrn hrd;go_wp2_with fail;change Calls _ _ _ (w5.alloc (.cells #[.int .i64 rn,.int .i64 rd] 74)) _;obtain ⟨W,hWW,k0,HXW,eW⟩:=X6s w5 74 #[.int .i64 rn,.int .i64 rd];rw [hWW];clear hWW;refine (Q1b _ k (c:Int) (by omega)).mono ?_
 rintro e w6 ⟨u,rfl,hu,hx⟩;have hxx:Ext w5 w6:=HXW.out.trans hx;replace HX:=Lib.hid (HX.out.trans hxx);replace HTAB:=Lib.hid (HTAB.out.ext hxx);have HU:=Lib.hid (hu);have KR:=Lib.hid (k0.ext hx);obtain ⟨ua,ub,uc,rfl,_⟩:=hu;obtain ⟨gr,hgr⟩:∃ x,w5.heap.size = x:=⟨_,rfl⟩;rw [hgr] at KR ⊢;clear hgr;clear hx hxx HXW eW k0;go_wp2_with fail;refine (Y2v _ _ k c hn1 hn9 hc16 HU.out HTAB.out).mono ?_;rintro e w7 ⟨xc,rfl,hcu,hx⟩;have hxx:Ext w6 w7:=hx;replace HX:=Lib.hid (HX.out.trans hxx);clear HTAB;replace HU:=Lib.hid (HU.out.ext hxx);replace KR:=Lib.hid (KR.out.ext hxx);have HCU:=Lib.hid (hcu);obtain ⟨Ac,cc,rfl,hcl,_,_⟩:=hcu.opened;clear hcu;clear hx hxx;clear HU;go_wp2_with fail;refine (Q1b _ k (c:Int) (by omega)).mono ?_
 rintro e w8 ⟨u,rfl,hu,hx⟩;have hxx:Ext w7 w8:=hx;replace HX:=Lib.hid (HX.out.trans hxx);replace KR:=Lib.hid (KR.out.ext hxx);replace HCU:=Lib.hid (HCU.out.ext hxx);have HU:=Lib.hid (hu);obtain ⟨ua,ub,uc,rfl,_⟩:=hu;clear hx hxx;go_wp2_with fail;refine (Y2l _ _ k c hn1 hn9 hc16 HU.out).mono ?_;rintro e w9 ⟨xd,rfl,⟨d1,d2,dB,dO,dc,rfl,⟨e1,e2,e3,rfl⟩,⟨e4,e5,e6,rfl⟩,hdc⟩,hx⟩;have hxx:Ext w8 w9:=hx;replace HX:=Lib.hid (HX.out.trans hxx);replace KR:=Lib.hid (KR.out.ext hxx);replace HCU:=Lib.hid (HCU.out.ext hxx);replace HU:=Lib.hid (HU.out.ext hxx);have HDC:=Lib.hid hdc;clear hdc;clear hx hxx;clear HU;go_upto_region 17 with fail;have kd:=Blk.made w9 71 #[.slice e1 e2 e3,.slice e4 e5 e6,.slice (some ⟨dB,dO,none⟩) 1 dc];have xd:=Ext.box w9 (.cells #[.slice e1 e2 e3,.slice e4 e5 e6,.slice (some ⟨dB,dO,none⟩) 1 dc] 71);obtain ⟨gd,hgd⟩:∃ x,w9.heap.size = x:=⟨_,rfl⟩;rw [hgd] at kd ⊢;obtain ⟨WD,hWD⟩:∃ X,w9.alloc (.cells #[.slice e1 e2 e3,.slice e4 e5 e6,.slice (some ⟨dB,dO,none⟩) 1 dc] 71) = X:=⟨_,rfl⟩;rw [hWD] at kd xd ⊢;replace HX:=Lib.hid (HX.out.trans xd);replace KR:=Lib.hid (KR.out.ext xd);replace HCU:=Lib.hid (HCU.out.ext xd);replace HDC:=Lib.hid (xd.cell HDC.out);have HKD:=Lib.hid kd;have hnd5:Q0m k <= 5:=by unfold Q0m; omega
 have hndk:Q0m k <= k:=by unfold Q0m; omega
 have htd:((k:Int) + 1).tdiv 2 = ((Q0m k:Nat):Int):=by
  unfold Q0m;rw [show (k:Int) + 1 = ((k + 1:Nat):Int) by omega]
  exact (Int.ofNat_tdiv (k + 1) 2).symm
 have hkc:((k + 1 - Q0m k:Nat):Int) = (k:Int) + 1 - (Q0m k:Nat):=by omega
 rw [hkc] at HDC;have hcl2:=(X1f (n:=k) (c:Int) hn1 hn9).1;have HCM:=Lib.hid (X1f (n:=k) (c:Int) hn1 hn9).2;have HNV:=Lib.hid (rfl:Q0m k = Q0m k);rw [hcl2] at HCU ⊢;have HCL:=Lib.hid hcl2;obtain ⟨ll,hll⟩:∃ x,(Q0e k (c:Int)).sets false = x:=⟨_,rfl⟩;rw [hll] at HCU HCL HCM;obtain ⟨nd,hnd⟩:∃ x,Q0m k = x:=⟨_,rfl⟩;rw [hnd] at hnd5 hndk htd HDC HCM HCL HCU ⊢;replace HNV:=Lib.hid hnd;clear hkc kd xd hWD hgd hnd hcl2 hll;have hwq:wrap64 (nd:Int) = nd:=by unfold wrap64; omega
 have hwk:IntKind.i64.wrap ((k:Int) + 1 - (nd:Int)) = (k:Int) + 1 - (nd:Int):=wrap_in (by omega) (by omega)
 have hdd:((k:Int) + 1 - (nd:Int) != (k:Int) + 1 - (nd:Int)) = false:=by simp
 have cd2:=HKD.out.cell 2;simp only [Go.Tw.gA,Go.Tw.gB,Go.Tw.gC] at cd2;have cdc:=HDC.out
 rcases HVE.out with ⟨rfl,hvr⟩ | ⟨rfl,rfl⟩
 . cases isF with
   | true =>
     rw [Bool.not_true] at hvr;go_upto_if 152 with fail
     go_step
     go_step
     go_step
     go_step
     exact X6g W0 WD k c nd gr cc Ac rn rd ll hn1 hn9 hc16 HNV.out HRN.out HRD.out HCL.out HCM.out HCU.out KR.out HX.out _ rfl rfl rfl rfl rfl
   | false =>
     rw [Bool.not_false] at hvr;go_upto_if 152 with fail
     go_step
     go_step
     go_step
     go_step
     exact X6g W0 WD k c nd gr cc Ac rn rd ll hn1 hn9 hc16 HNV.out HRN.out HRD.out HCL.out HCM.out HCU.out KR.out HX.out _ rfl rfl rfl rfl rfl
 . skip
   go_upto_if 152 with fail
   go_step
   go_step
   go_step
   go_step
   exact X6g W0 WD k c nd gr cc Ac rn rd ll hn1 hn9 hc16 HNV.out HRN.out HRD.out HCL.out HCM.out HCU.out KR.out HX.out _ rfl rfl rfl rfl rfl
end Go.Proofs
namespace Go.Proofs
open Go.RowKit Go.Tw Go.Flow
def Q4z (p f:Value):Prop:=∀ b,p.ownBlock = some b -> f.ownBlock ≠ some b
theorem Q5l {w w':World} {B:Nat} {T:TypeId} {p f:Value} {l:List Int} (h:Q0f w B T (Value.int .i64) f l) (hg:w.grownBy w' p.ownBlock) (ha:∀ b,p.ownBlock = some b -> f.ownBlock ≠ some b):Q0f w' B T (Value.int .i64) f l:=by
 obtain ⟨h1,h2⟩:=h;refine ⟨h1,?_⟩
 rcases h2 with h2 | ⟨g,cap,cur,hv,hb,hgl,r⟩
 . exact .inl h2
 . refine .inr ⟨g,cap,cur,hv,hb,?_,r⟩
   rw [hg.block g (Array.getElem?_eq_some_iff.1 hgl).1 ?_]; exact hgl;intro e';exact ha g e'.symm (by rw [hv]; rfl)
theorem Y1o {w:World} {B:Nat} {T:TypeId} {f:Value} {l:List Int} (h:Q0f w B T (Value.int .i64) f l):∀ b,f.ownBlock = some b -> b < w.heap.size:=fun b hb=>(World.ownsRow.lt h b hb).2
theorem Q5p {w wa:World} {B:Nat} {T:TypeId} {p f v':Value} {l:List Int} (hf:Q0f w B T (Value.int .i64) f l) (hs:w.heap.size <= wa.heap.size) (ha:Q4z p f) (hat:v'.ownBlock = p.ownBlock ∨ v'.ownBlock = some wa.heap.size):Q4z v' f:=by
 intro b hb hfb;have hlt:=Y1o hf b hfb
 rcases hat with h | h
 . exact ha b (h ▸ hb) hfb
 . rw [h] at hb
   cases hb;omega
theorem Q4z.symm {p f:Value} (h:Q4z p f):Q4z f p:=fun b hb hp=>h b hp hb
theorem X8q (n s:Nat) (r:Int) {k:Nat} (hk:k < n):(Q3m n s r).take (k + 1) = (Q3m n s r).take k ++ [X1h s r k]:=by
 rw [List.take_succ_eq_append_getElem (by simpa [Q3m] using hk)]
 congr 1
 simp [Q3m]
attribute [local go_sem ↓] Q3x
theorem Q6i (w:World) (a b d s:Nat) (ha:a < 256) (hb:b < 256) (hd:d < 256) (hs:s < 65536) (hT:Tab w) :
    Calls Tryd.prog 4 #[.agg #[.int .u8 (a:Int),.int .u8 (b:Int),.int .u8 (d:Int)],.int .u16 (s:Int)] w fun e w'=>e = .returned (.bool true) /\ Ext w w':=by
 obtain ⟨i0,hi,hz0,hz1,hz2⟩:=info_parts Tryd.info3;have HTAB:=Lib.hid hT;clear hT;have hm9:(a:Int).tmod 9 = ((a % 9:Nat):Int):=(Int.ofNat_tmod a 9).symm;have hm17:(b:Int).tmod 17 = ((b % 17:Nat):Int):=(Int.ofNat_tmod b 17).symm;go_enter Tryd.func4,Tryd.ntmps4;go_wp2_with fail;change Calls _ _ _ (w.alloc (.cells #[.int .u8 (a:Int),.int .u8 (b:Int),.int .u8 (d:Int)] 61)) _;obtain ⟨W,hWW,k0,HXW,eW⟩:=X6s w 61 #[.int .u8 (a:Int),.int .u8 (b:Int),.int .u8 (d:Int)];rw [hWW];clear hWW;refine (Q9j _).mono ?_;rintro e w1 ⟨rfl,hx1⟩;have kb:=k0.ext hx1;have c0:=kb.cell 0;have c1:=kb.cell 1;have c2:=kb.cell 2;simp only [Go.Tw.gA,Go.Tw.gB,Go.Tw.gC] at c0 c1 c2;have HX1:=Lib.hid (HXW.out.trans hx1);replace HTAB:=Lib.hid (HTAB.out.ext HX1.out);clear hx1 kb k0 eW HXW;go_wp2
 go_quiet (fail)
 all_goals go_wp2_with fail
 have en:1 + (a:Int) % 9 = ((1 + a % 9:Nat):Int):=by omega
 have ec:(b:Int) % 17 = ((b % 17:Nat):Int):=by omega
 rw [en,ec];have hn1:1 <= 1 + a % 9:=by omega
 have hn9:1 + a % 9 <= 9:=by omega
 have hc16:b % 17 <= 16:=by omega
 obtain ⟨n,hn⟩:∃ n,1 + a % 9 = n:=⟨_,rfl⟩;obtain ⟨c,hc⟩:∃ c,b % 17 = c:=⟨_,rfl⟩;obtain ⟨r,hr⟩:∃ r,100 + (d:Int) = r:=⟨_,rfl⟩;rw [hn,hc,hr];rw [hn] at hn1 hn9;rw [hc] at hc16;have hr1:100 <= r:=by omega
 have hr2:r < 400:=by omega
 replace HTAB:=Lib.hid (HTAB.out.ext ((Ext.refl w1).drewN nq));replace HX1:=Lib.hid (HX1.out.drewN nq);obtain ⟨W1,hW1⟩:∃ X,w1.drewN nq = X:=⟨_,rfl⟩;rw [hW1] at HTAB HX1 ⊢;clear hW1 en ec hn hc hr c0 c1 c2 hm9 hm17
 go_loopw [8,9,43] (fun p f i wr=>∃ (k:Nat),k <= n /\ i = .int .i64 k /\ Q0f wr W1.heap.size 3 (.int .i64) p ((Q3m n s r).take k) /\ Q0f wr W1.heap.size 3 (.int .i64) f (Q1o s k) /\ Q4z p f /\ Ext W1 wr) (fun _ _ i _=>n - (intOf i).toNat)
 case atStart=>exact ⟨0,Nat.zero_le _,rfl,Q0f.nil _ _ _ _,Q0f.nil _ _ _ _,(fun b h=>by cases h),Ext.refl _⟩
 case round =>
  obtain ⟨k,hk,rfl,hop,hof,hap,hx⟩:=hrel
  by_cases hlt:k < n
  . have hlt2:(k:Int) < (n:Int):=by omega
    have hlp:((Q3m n s r).take k).length = k:=by simp [Q3m]; omega
    have hlf:=Q9c s k;have HTK:=Lib.hid (X8q n s r hlt);have HBT:=Lib.hid (Q6z s k);have hbit:=Q4y (s:=s) (by omega) k
    have hop0:=hop;have hof0:=hof;obtain ⟨Ap,cp,hps,_⟩:=hop.shape;obtain ⟨Af,cf,hfs,_⟩:=hof.shape;rw [hlp] at hps;unfold Q0f at hop;rw [hlp] at hop;have HOF0:=Lib.hid hof0;have HOP0:=Lib.hid hop0;have HAP:=Lib.hid hap;have HX:=Lib.hid hx;clear hop0 hof0 hap;subst hps;subst hfs;cases htb:s.testBit k with
    | true =>
      rw [htb] at hbit HBT;have HTP:Hid (X1h s r k = 400 + (k:Int)):=Lib.hid (by unfold X1h; rw [if_pos htb])
      clear htb
      go_light
      go_wp2_with (first | ((at_builtin; refine wpList_append_own_at _ rfl _ _ 32 rfl (W1.heap.size) 3 i0 (.int .i64 0) 1 8 Tryd.underlying32 hi hz0 hz1 hz2 rfl (by decide) _ _ _ rfl (World.ownsRow.alloc hop _) ⟨wr.heap.size,0,none⟩ 1 1 [.int .i64 (400 + (k:Int))] rfl rfl ?_ ?_ ?_ ?_ ?_ ?_; exact Q3p _ _ _; (focus (simp [Value.oneCell'])); (focus (unfold maxLen; omega)); (focus omega); (focus (have:=hx.size; simp at this ⊢; omega)); intro v' w1 hown' hgrow _ hat); refine halted ?_))
      have hg1:(wr.alloc (.cells #[.int .i64 (400 + (k:Int))] 3)).grownBy w1 (Value.slice Ap k cp).ownBlock:=hgrow;have hat1:v'.ownBlock = (Value.slice Ap k cp).ownBlock ∨ v'.ownBlock = some (wr.alloc (.cells #[.int .i64 (400 + (k:Int))] 3)).heap.size:=hat;have hp1:Q0f w1 W1.heap.size 3 (.int .i64) v' ((Q3m n s r).take (k + 1)):=by
       rw [HTK.out,HTP.out];exact Q0f.snoc (by rw [hlp]; exact hown')
      have hf1:=Q5l (HOF0.out.below (Ext.box wr (.cells #[.int .i64 (400 + (k:Int))] 3))) hg1 HAP.out;have ha1:Q4z v' (.slice Af (Q1o s k).length cf):=Q5p (wa:=wr.alloc (.cells #[.int .i64 (400 + (k:Int))] 3)) HOF0.out (by simp) HAP.out hat1
      have hx1:Ext W1 w1:=Q1z HX.out hop (Nat.le_refl _) hg1;have hlp1:((Q3m n s r).take (k + 1)).length = k + 1:=by simp [Q3m]; omega
      obtain ⟨A8,c8,hsh,_⟩:=hp1.shape;rw [hlp1] at hsh;have HP1:=Lib.hid hp1;have HF1:=Lib.hid hf1;have HA1:=Lib.hid ha1;have HX2:=Lib.hid hx1;clear hown' hgrow hat hg1 hat1 hop HOP0 HOF0 HAP hp1 ha1 hx;subst hsh;obtain ⟨wa,hwa⟩:∃ X,X = w1:=⟨_,rfl⟩;subst hwa;unfold Q2v;unfold Q0f at hf1;go_wp2_with (first | ((at_builtin; refine wpList_append_own_at _ rfl _ _ 32 rfl (W1.heap.size) 3 i0 (.int .i64 0) 1 8 Tryd.underlying32 hi hz0 hz1 hz2 rfl (by decide) _ _ _ rfl (World.ownsRow.alloc hf1 _) ⟨wa.heap.size,0,none⟩ 1 1 [.int .i64 (k:Int)] rfl rfl ?_ ?_ ?_ ?_ ?_ ?_; exact Q3p _ _ _; (focus (simp [Value.oneCell'])); (focus (unfold maxLen; omega)); (focus omega); (focus (have:=hx1.size; simp at this ⊢; omega)); intro v' w1 hown' hgrow _ hat); refine halted ?_))
      have hg2:(wa.alloc (.cells #[.int .i64 (k:Int)] 3)).grownBy w1 (Value.slice Af (Q1o s k).length cf).ownBlock:=hgrow;have hat2:v'.ownBlock = (Value.slice Af (Q1o s k).length cf).ownBlock ∨ v'.ownBlock = some (wa.alloc (.cells #[.int .i64 (k:Int)] 3)).heap.size:=hat;have hf2:Q0f w1 W1.heap.size 3 (.int .i64) v' (Q1o s (k + 1)):=by
       rw [HBT.out,if_pos trivial];exact Q0f.snoc hown'
      have hp2:=Q5l (HP1.out.below (Ext.box wa (.cells #[.int .i64 (k:Int)] 3))) hg2 HA1.out.symm;have ha2:Q4z v' (.slice A8 (k + 1) c8):=Q5p (wa:=wa.alloc (.cells #[.int .i64 (k:Int)] 3)) HP1.out (by simp) HA1.out.symm hat2
      have hx2:Ext W1 w1:=Q1z HX2.out hf1 (Nat.le_refl _) hg2;have HP2:=Lib.hid hp2;have HF2:=Lib.hid hf2;have HA2:=Lib.hid ha2.symm;have HX3:=Lib.hid hx2;clear hown' hgrow hat hg2 hat2 hf1 hf2 hp2 ha2 hx1 hx2;unfold Q2v;go_wp2;go_roundw
      case rel=>exact ⟨k + 1,by omega,by go_num,HP2.out,HF2.out,HA2.out,HX3.out⟩
      case measure=>simp [intOf]; omega
    | false =>
      rw [htb] at hbit HBT;have HTP:Hid (X1h s r k = r):=Lib.hid (by unfold X1h; rw [if_neg (by rw [htb]; simp)])
      clear htb
      go_light
      go_wp2_with (first | ((at_builtin; refine wpList_append_own_at _ rfl _ _ 32 rfl (W1.heap.size) 3 i0 (.int .i64 0) 1 8 Tryd.underlying32 hi hz0 hz1 hz2 rfl (by decide) _ _ _ rfl (World.ownsRow.alloc hop _) ⟨wr.heap.size,0,none⟩ 1 1 [.int .i64 r] rfl rfl ?_ ?_ ?_ ?_ ?_ ?_; exact Q3p _ _ _; (focus (simp [Value.oneCell'])); (focus (unfold maxLen; omega)); (focus omega); (focus (have:=hx.size; simp at this ⊢; omega)); intro v' w1 hown' hgrow _ hat); refine halted ?_))
      have hg1:(wr.alloc (.cells #[.int .i64 r] 3)).grownBy w1 (Value.slice Ap k cp).ownBlock:=hgrow;have hat1:v'.ownBlock = (Value.slice Ap k cp).ownBlock ∨ v'.ownBlock = some (wr.alloc (.cells #[.int .i64 r] 3)).heap.size:=hat;have hp1:Q0f w1 W1.heap.size 3 (.int .i64) v' ((Q3m n s r).take (k + 1)):=by
       rw [HTK.out,HTP.out];exact Q0f.snoc (by rw [hlp]; exact hown')
      have hf1:=Q5l (HOF0.out.below (Ext.box wr (.cells #[.int .i64 r] 3))) hg1 HAP.out;have ha1:Q4z v' (.slice Af (Q1o s k).length cf):=Q5p (wa:=wr.alloc (.cells #[.int .i64 r] 3)) HOF0.out (by simp) HAP.out hat1
      have hx1:Ext W1 w1:=Q1z HX.out hop (Nat.le_refl _) hg1;have hlp1:((Q3m n s r).take (k + 1)).length = k + 1:=by simp [Q3m]; omega
      obtain ⟨A8,c8,hsh,_⟩:=hp1.shape;rw [hlp1] at hsh;have HP1:=Lib.hid hp1;have HF1:=Lib.hid hf1;have HA1:=Lib.hid ha1;have HX2:=Lib.hid hx1;clear hown' hgrow hat hg1 hat1 hop HOP0 HOF0 HAP hp1 ha1 hx;subst hsh;obtain ⟨wa,hwa⟩:∃ X,X = w1:=⟨_,rfl⟩;subst hwa;have HBF:Hid (Q1o s (k + 1) = Q1o s k):=Lib.hid (by rw [HBT.out]; simp)
      clear hf1 hx1;unfold Q2v;go_wp2;go_roundw
      case rel=>exact ⟨k + 1,by omega,by go_num,HP1.out,by rw [HBF.out]; exact HF1.out,HA1.out,HX2.out⟩
      case measure=>simp [intOf]; omega
  . skip
    have hkn:k = n:=by omega
    subst hkn;have hpp:=hop;rw [List.take_of_length_le (by simp [Q3m])] at hpp
    have hpi:=hpp.ints (by simp [Q3m]; omega)
    have hff:=hof.ints (by have:=Q9c s k; omega)
    rw [X5v s k (by omega)] at hff
    obtain ⟨Ap,cp,hps,_⟩:=hpp.shape;obtain ⟨Af,cf,hfs,_⟩:=hof.shape;obtain ⟨lf,hlf⟩:∃ x,(Q1o s k).length = x:=⟨_,rfl⟩;rw [hlf] at hfs;rw [show (Q3m k s r).length = k by simp [Q3m]] at hps
    subst hps;subst hfs;have HPI:=Lib.hid hpi;have HFI:=Lib.hid hff;have HT2:=Lib.hid (HTAB.out.ext hx);have HX2:=Lib.hid (HX1.out.trans hx);clear hpp hpi hff hop hof hap hx hlf HTAB HX1;have hltn:¬ (k:Int) < (k:Int):=by omega
    go_upto_if 44 with fail
    go_step
    go_step
    go_step
    go_step
    go_step
    go_step
    exact Y1s w wr k c s lf cp cf Ap Af r hn1 hn9 hc16 hr1 hr2 HPI.out HFI.out HT2.out HX2.out _ rfl rfl rfl rfl rfl rfl
end Go.Proofs
namespace Go.Proofs
open Go.Proofs.YtghcnlbkghaaeaaDoor Go.RowKit Go.Tw Go.ChangeShapes Go.WideShapes Go.Deep
theorem Tryd.cP3:Tryd.prog.cellsOf 61 = 3:=by kernel_rfl
theorem Tryd.c8:Tryd.prog.cellsOf 5 = 1:=by kernel_rfl
theorem Q8j {H:Type} {enc:TypeId × Value -> H} {W:World} {b0:Nat} {v:Value} {d:DataW H} {ps:List MemPlace} (hv:Value.okWide Tryd.prog W .any b0 61 v) (h:DataW.Trod enc Tryd.prog W 0 (fun _=>true) true 61 v d ps) :
    ∃ a b c:Nat,v = .agg #[.int .u8 (a:Int),.int .u8 (b:Int),.int .u8 (c:Int)] /\ a < 256 /\ b < 256 /\ c < 256:=by
 have hu:Tryd.prog.underlying 61 = some (.array 3 5):=Tryd.underlying61;simp only [Value.okWide,hu] at hv;obtain ⟨cs,rfl,hsz,_⟩:=hv;rw [Tryd.cP3] at hsz;obtain ⟨c0,c1,c2,rfl⟩:∃ a b c,cs = #[a,b,c]:=by
  obtain ⟨l⟩:=cs
  match l,hsz with
  | [a,b,c],_=>exact ⟨a,b,c,rfl⟩
 obtain ⟨fuel,hf⟩:=h;obtain ⟨xs,m,rfl,_,_,hl,hx⟩:=DataW.trod_array hu hf;have h0:=hx 0 (by omega)
 have h1:=hx 1 (by omega)
 have h2:=hx 2 (by omega)
 simp only [Value.cells,Tryd.c8,List.drop_zero,Nat.mul_one,List.take_succ_cons,List.take_zero,List.drop_succ_cons] at h0 h1 h2;rw [List.getElem?_eq_getElem (by omega)] at h0 h1 h2
 obtain ⟨z0,e0,_,w0⟩:=DataW.trod_int Tryd.underlying5 h0;obtain ⟨z1,e1,_,w1⟩:=DataW.trod_int Tryd.underlying5 h1;obtain ⟨z2,e2,_,w2⟩:=DataW.trod_int Tryd.underlying5 h2;simp only [List.cons.injEq,and_true] at e0 e1 e2;subst e0;subst e1;subst e2;obtain ⟨n0,u0,rfl⟩:=X8i w0;obtain ⟨n1,u1,rfl⟩:=X8i w1;obtain ⟨n2,u2,rfl⟩:=X8i w2;exact ⟨n0,n1,n2,rfl,u0,u1,u2⟩
theorem Y1j {n:Int} (h:(Lit.int .u16 n).wf = true):∃ k:Nat,k < 65536 /\ n = (k:Int):=by
 unfold Lit.wf at h;rw [Bool.and_eq_true,decide_eq_true_eq,decide_eq_true_eq] at h;have h1:IntKind.min .u16 = 0:=by decide
 have h2:IntKind.max .u16 = 65535:=by decide
 rw [h1,h2] at h;exact ⟨n.toNat,by omega,by omega⟩
end Go.Proofs
namespace Go.Proofs.YtghcnlbkghaaeaaDoor
open Go.ChangeShapes Go.WideShapes Go.ChangeAt Go.RowKit Go.Tw
theorem Q4o (os:Os) (started:os.Started) (H:Type) (enc:TypeId × Value -> H) :
    ReturnsInHanded {} Tryd.checked os 4 .any (fun w args=>(Rows.topPilotVoteSpec.pre enc Tryd.prog Tryd.f4 Rows.topPilotVoteRow.domain false w args /\ laidMetH Tryd.prog X4z w) /\ sizedMet enc Tryd.prog Tryd.f4 (OpenSpec.ofChange Rows.topPilotVoteSpec) false w args)
     (Rows.topPilotVoteSpec.post enc Tryd.prog Tryd.f4 false true false false):=by
 refine returnsInHanded_of_change_and (C:=Tryd.checked) (X:=fun w _=>laidMetH Tryd.prog X4z w) (fun _ _ _ hh h=>h.of_heap hh) own started (by kernel_rfl) Tryd.func4
  (ChangeSpec.witness_shaped (enc:=enc) (C:=Tryd.checked) (os:=os) (X:=fun w _=>laidMetH Tryd.prog X4z w) false (World.laidAll Tryd.prog os X4z) #[.agg #[.int .u8 0,.int .u8 0,.int .u8 0],.int .u16 0] 8 (World.laidAll_os _ _ _)
   (World.shaped_of_ZipB (by kernel_rfl) (by kernel_rfl)) (by kernel_rfl) (by kernel_rfl) (by kernel_rfl)
   (by rw [MakeChecks.laidMetH_plain _ _ _ (by kernel_rfl)]; exact laidMet_laidAll _ (by kernel_rfl) (by kernel_rfl))) ?_
 intro W base args ds gs before hval0 hW hc hsz0 hL _;have hval:∀ (j:Nat) t v,Tryd.f4.params[j]? = some t -> args[j]? = some v -> Value.okWide Tryd.prog W .any base t v:=hval0;have hsz:(DataW.weightsEach Tryd.prog (Tryd.f4.params.toList ++ Rows.topPilotVoteSpec.plain.varTypes Tryd.prog) (ds ++ gs)).all (· <= reachBytes) = true:=hsz0;have hW':=hW;obtain ⟨p,q,hA0,hV,rfl,hfz,hnd⟩:=hW;have hA:DataW.TrodAll enc Tryd.prog W 0 (fun _=>true) true Tryd.f4.params.toList args.toList ds p:=hA0;rw [Tryd.params4] at hA hval hsz;obtain ⟨v0,vs0,d0,ds0,p0,q0,hargs,rfl,rfl,h0,r0⟩:=trodAll_cons hA;obtain ⟨v1,vs1,d1,ds1,p1,q1,rfl,rfl,rfl,h1,r1⟩:=trodAll_cons r0;obtain ⟨rfl,rfl,rfl⟩:=trodAll_nil r1;obtain rfl:args = #[v0,v1]:=by cases args; simp_all
 obtain ⟨rfl,rfl⟩:=trodVars_none hV;have hfit:∀ x ∈ DataW.weightsEach Tryd.prog [61,62] [d0,d1],x <= 140737488351232:=fun x hx=>by
  have:=List.all_eq_true.1 (show (DataW.weightsEach Tryd.prog [61,62] [d0,d1]).all (· <= reachBytes) = true from hsz) x hx
  exact Nat.le_trans (of_decide_eq_true this) (by decide)
 obtain ⟨f0,g0⟩:=X0s hfit;obtain ⟨f1,g1⟩:=X0s g0;have k0:=h0;have lt0:∀ x ∈ p0,x.block < W.heap.size:=by obtain ⟨m,hm⟩:=k0; exact DataW.trod_lt m _ _ _ hm
 obtain ⟨pa,pb,pd,rfl,ua,ub,ud⟩:=Q8j (hval 0 61 v0 rfl rfl) h0;have k1:=h1;have lt1:∀ x ∈ p1,x.block < W.heap.size:=by obtain ⟨m,hm⟩:=k1; exact DataW.trod_lt m _ _ _ hm
 obtain ⟨z1,rfl,rfl,rfl,wz1⟩:=open_int Tryd.underlying62 (hval 1 62 v1 rfl rfl) h1;obtain ⟨nu1,hu1,rfl⟩:=Y1j wz1;clear hA0 hval0 hsz0;refine (Q6i _ _ _ _ _ ua ub ud hu1 (X1t hL)).mono fun e W' ⟨he,bel⟩=>?_;subst he;exact ⟨_,rfl,_,_,_,[],_,[],hW',trodAll_mk1 (shut_bool Tryd.underlying4 _),(trodAll_cons_mk (Below.trod laidOut (by kernel_rfl) (of_decide_eq_true (by kernel_rfl)) k0 bel lt0) (trodAll_cons_mk (shut_int Tryd.underlying62 wz1) trodAll_mk0)),rfl,bel.frame _,fun h=>by cases h⟩
theorem Q5a:Rows.TopPilotVoteSaid :=
 OpenClaim.holds_of_wide 4 Tryd.f4 rfl rfl rfl rfl rfl rfl rfl ⟨rfl,rfl,rfl,rfl,rfl⟩ rfl rfl rfl rfl rfl (by kernel_rfl) Tryd.func4 (by kernel_rfl)
  (of_decide_eq_true (by kernel_rfl)) (by unfold Func.isWrapper; first | (rw [if_pos (by decide +kernel)]; kernel_rfl) | (rw [if_neg (by decide +kernel)]; exact ⟨rfl,rfl⟩))
  (fun os started H enc _=>Q4o os started H enc)
theorem topPilotVote_card:Rows.TopPilotVoteCardSaid :=
 Claim7.holds_tied_plain_at .later [] [.data,.data] true _ false Q5a (fun _ h=>by cases h) (by kernel_rfl) (fun _ h=>by cases h) topPilotVote_row_tie rfl ⟨rfl,rfl⟩ (by kernel_rfl) rfl
  (fun f fn hf hfn=>by
   obtain rfl:f = 4:=Option.some.inj ((show Tryd.prog.funcNamed Rows.topPilotVoteRow.func = some 4 by kernel_rfl).symm.trans hf) |>.symm
   obtain rfl:fn = Tryd.f4:=(Option.some.inj (Tryd.func4.symm.trans hfn)).symm;exact ⟨by kernel_rfl,fun j t ht=>by
    rw [Tryd.params4] at ht;have hm:t ∈ [61,62]:=by simpa using Array.mem_of_getElem? ht
    have hall:([61,62].all fun u=>!Tryd.prog.wantsStandIn u) = true:=by kernel_rfl
    exact (show Tryd.prog.wantsStandIn t = false by simpa using List.all_eq_true.1 hall t hm)⟩)
  (by kernel_rfl)
#print axioms topPilotVote_card
end Go.Proofs.YtghcnlbkghaaeaaDoor
