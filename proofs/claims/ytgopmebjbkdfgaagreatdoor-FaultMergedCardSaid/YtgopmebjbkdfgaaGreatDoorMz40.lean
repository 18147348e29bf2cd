/- The walk through FaultMerged from region 34 on: without a cause. -/
import Derived.Test.YtgopmebjbkdfgaaGreatDoorMz28
import Derived.Test.YtgopmebjbkdfgaaGreatDoorMz34
import Derived.Test.YtgopmebjbkdfgaaGreatDoorMz39
import Derived.Test.YtgopmebjbkdfgaaGreatDoorMz31
import Derived.Deep.DeepCutAuto
set_option maxRecDepth 1000000
set_option maxHeartbeats 64000000
set_option linter.unusedVariables false
set_option linter.unusedSimpArgs false
set_option linter.constructorNameAsVariable false
namespace Go.Proofs
open Go.RowKit Go.Tw Go.Flow
theorem Q8a {P:Program} {o:Oper} {a:Act} (x:Operand) (t:TypeId) (ho:o.op = .call { callee:=.builtin .len,args:=#[x],argTypes:=#[t] }) (hu:P.underlying t = some (.slice (P.elem t))) {A:Option Addr} {n c:Nat} (hx:a.eval x = .slice A n c) (w:World):(execOp a.eval o).run P w = .ok (.value (.int .i64 (n:Int))) w:=by
 unfold execOp;simp only [ho,resolve,invoke,builtin,Sem.run_bind,Sem.run_pure,Result.andThen_ok,List.map_toArray,List.map_cons,List.map_nil,hx,run_len_slice _ _ _ _ _ _ hu];rfl
theorem X0e (w:World) (a b c d:Int):(Instr.buildSlice 134 2 #[(0,.agg #[.int .i64 a,.int .i64 b]),(1,.agg #[.int .i64 c,.int .i64 d])]).run Tryz.prog w = .ok (.slice (some ⟨w.heap.size,0,none⟩) 2 2) (w.alloc (.cells #[.int .i64 a,.int .i64 b,.int .i64 c,.int .i64 d] 52)):=by kernel_rfl
theorem Z6d {w:World} {g:Nat} {T:TypeId} {l:List Ratio} (hl:l.length <= 1000) (h:Blk w g T (l.flatMap fun x=>[.int .i64 x.num,.int .i64 x.den]).toArray):X8x w (.slice (some ⟨g,0,none⟩) l.length l.length) l:=by
 have hk:∀ x:Ratio,([Value.int .i64 x.num,.int .i64 x.den]:List Value).length = 2:=fun _=>rfl;refine ⟨fun j=>((l.flatMap fun x=>[Value.int .i64 x.num,.int .i64 x.den])[j]?).getD undef,⟨_,_,rfl,by omega,Nat.le_refl _,fun j hj=>⟨_,0,rfl,?_⟩⟩,fun j hj=>?_⟩
 . have hlen:=Q6n hk l
   have hj':j < (l.flatMap fun x=>[Value.int .i64 x.num,.int .i64 x.den]).length:=by omega
   rw [Nat.zero_add,h.cell];simp [List.getElem?_eq_getElem hj']
 . have h0:=flat_get hk l j 0 hj (by omega)
   have h1:=flat_get hk l j 1 hj (by omega)
   exact ⟨by show Option.getD _ _ = _; rw [h0]; rfl,by show Option.getD _ _ = _; rw [h1]; rfl⟩
theorem Z6c (w:World) (u:Value) (t:Tree) (k:Nat) (he:t.err = 0) (hk:k < t.causes.length) (hs:t.size <= 12) (hu:IsTree w u t) :
    Calls Tryz.prog 23 #[u,.int .i64 k] w fun e w'=>∃ x,e = .returned (.tuple #[x,.int .i64 0]) /\ IsTree w' x (Q4h t k) /\ Ext w w':=by
 unfold Tree.size at hs;have h:=X6m w u t k hu (by omega) (by omega)
 have e0:Q3f t (k:Int) = 0:=by
  unfold Q3f;rw [he,decide_eq_false (by omega),decide_eq_false (by omega)]
  rfl
 have e1:Q4j t (k:Int) = Q4h t k:=by unfold Q4j; rw [if_pos e0]; rfl
 rw [e0,e1] at h;exact h
theorem Z7n (w:World) (u v:Value) (a o:Tree) (k:ByteArray) (hk:k = Q4v ∨ k = sOr) (h:X9s a o) (hu:IsTree w u a) (hv:IsTree w v o) :
    Calls Tryz.prog 9 #[u,v,.string k] w fun e w'=>∃ x,e = .returned (.tuple #[x,.int .i64 0]) /\ Q7q 33 w' x (Q0k a o k) /\ Ext w w':=by
 have h0:=h.zero hk;have h1:=Z2e w u v a o k hu hv;rw [h0.1,h0.2] at h1;exact h1
theorem Z6y (w:World) (v:Value) (t:Tree) (he:t.err = 0) (hv:IsTree w v t):Calls Tryz.prog 12 #[v] w fun e w'=>e = .returned (.int .i64 0) /\ Ext w w':=by
 have h:=Q9l w v t hv;rw [he] at h;exact h
theorem Z1d (w:World) (v:Value) (t:Tree) (he:t.err = 0) (hv:IsTree w v t):Calls Tryz.prog 16 #[v] w fun e w'=>∃ u,e = .returned u /\ IsTree w' u t /\ Ext w w':=by
 have h:=Valid.of he;have h1:=h.size;have h2:=h.ng';unfold Tree.size at h1;exact Z9v w v t hv (by omega) (by omega) (by omega)
theorem Z0s {F:Array Value} (h:F.size = 364):∃ u:Nat -> Value,F = #[u 0,u 1,u 2,u 3,u 4,u 5,u 6,u 7,u 8,u 9,u 10,u 11,u 12,u 13,u 14,u 15,u 16,u 17,u 18,u 19,u 20,u 21,u 22,u 23,u 24,u 25,u 26,u 27,u 28,u 29,u 30,u 31,u 32,u 33,u 34,u 35,u 36,u 37,u 38,u 39,u 40,u 41,u 42,u 43,u 44,u 45,u 46,u 47,u 48,u 49,u 50,u 51,u 52,u 53,u 54,u 55,u 56,u 57,u 58,u 59,u 60,u 61,u 62,u 63,u 64,u 65,u 66,u 67,u 68,u 69,u 70,u 71,u 72,u 73,u 74,u 75,u 76,u 77,u 78,u 79,u 80,u 81,u 82,u 83,u 84,u 85,u 86,u 87,u 88,u 89,u 90,u 91,u 92,u 93,u 94,u 95,u 96,u 97,u 98,u 99,u 100,u 101,u 102,u 103,u 104,u 105,u 106,u 107,u 108,u 109,u 110,u 111,u 112,u 113,u 114,u 115,u 116,u 117,u 118,u 119,u 120,u 121,u 122,u 123,u 124,u 125,u 126,u 127,u 128,u 129,u 130,u 131,u 132,u 133,u 134,u 135,u 136,u 137,u 138,u 139,u 140,u 141,u 142,u 143,u 144,u 145,u 146,u 147,u 148,u 149,u 150,u 151,u 152,u 153,u 154,u 155,u 156,u 157,u 158,u 159,u 160,u 161,u 162,u 163,u 164,u 165,u 166,u 167,u 168,u 169,u 170,u 171,u 172,u 173,u 174,u 175,u 176,u 177,u 178,u 179,u 180,u 181,u 182,u 183,u 184,u 185,u 186,u 187,u 188,u 189,u 190,u 191,u 192,u 193,u 194,u 195,u 196,u 197,u 198,u 199,u 200,u 201,u 202,u 203,u 204,u 205,u 206,u 207,u 208,u 209,u 210,u 211,u 212,u 213,u 214,u 215,u 216,u 217,u 218,u 219,u 220,u 221,u 222,u 223,u 224,u 225,u 226,u 227,u 228,u 229,u 230,u 231,u 232,u 233,u 234,u 235,u 236,u 237,u 238,u 239,u 240,u 241,u 242,u 243,u 244,u 245,u 246,u 247,u 248,u 249,u 250,u 251,u 252,u 253,u 254,u 255,u 256,u 257,u 258,u 259,u 260,u 261,u 262,u 263,u 264,u 265,u 266,u 267,u 268,u 269,u 270,u 271,u 272,u 273,u 274,u 275,u 276,u 277,u 278,u 279,u 280,u 281,u 282,u 283,u 284,u 285,u 286,u 287,u 288,u 289,u 290,u 291,u 292,u 293,u 294,u 295,u 296,u 297,u 298,u 299,u 300,u 301,u 302,u 303,u 304,u 305,u 306,u 307,u 308,u 309,u 310,u 311,u 312,u 313,u 314,u 315,u 316,u 317,u 318,u 319,u 320,u 321,u 322,u 323,u 324,u 325,u 326,u 327,u 328,u 329,u 330,u 331,u 332,u 333,u 334,u 335,u 336,u 337,u 338,u 339,u 340,u 341,u 342,u 343,u 344,u 345,u 346,u 347,u 348,u 349,u 350,u 351,u 352,u 353,u 354,u 355,u 356,u 357,u 358,u 359,u 360,u 361,u 362,u 363]:=by
 refine ⟨fun i=>F.getD i undef,?_⟩;have e:F = ((List.range 364).map fun i=>F.getD i undef).toArray:=by
  apply Array.ext
  . simp [h]
  . intro i h1 h2
    simp [h1]
 exact e.trans (by kernel_rfl)
attribute [local go_sem ↓] Q8m Q7e X0e
theorem J3s (W0 WB:World) (t:Tree) (A B G:Option Addr) (capa capb capg gT:Nat) (nn:Nat) (hn:nn < 256) (he:t.err = 0) (hf:Few t) (hsz:t.size <= 5) (ht:Q3u WB (.slice A t.basics.length capa) (.slice B t.causes.length capb) (.slice G t.gates.length capg) t) (k0:Blk WB gT 26 #[.slice A t.basics.length capa,.slice B t.causes.length capb,.slice G t.gates.length capg]) (hx0:Ext W0 WB) (F:Array Value) (hF:F.size = 364) (f2:F[2]? = some (.int .u8 nn)) (f3:F[3]? = some (.pointer (some ⟨gT,0,none⟩))) :
    (codeFrom Tryz.f4 34).wp Tryz.prog (bodyPost Tryz.prog Tryz.f4 (fun e w'=>e = .returned (.bool true) /\ Ext W0 w')) ⟨F,[]⟩ WB:=by
 obtain ⟨u,rfl⟩:=Z0s hF;replace f2:u 2 = _:=Option.some.inj f2;replace f3:u 3 = _:=Option.some.inj f3;rw [f2,f3];clear hF f2 f3
 conv=>arg 2; whnf
 have HE:=Lib.hid he;have HF:=Lib.hid hf;have HSZ:=Lib.hid hsz;have HT:=Lib.hid ht;have K0:=Lib.hid k0;have HW0:=Lib.hid hx0;have HV:=Lib.hid (Valid.of he);have HX:=Lib.hid (Ext.refl WB);obtain ⟨_,_,he1,_,hcap1,_⟩:=ht.basics.opened;cases he1;obtain ⟨_,_,he1,_,hcap2,_⟩:=ht.causes.opened;cases he1;obtain ⟨_,_,he1,_,hcap3,_⟩:=ht.gates.opened;cases he1;clear hx0 he hf ht k0;have k0_0:=K0.out.cell 0;have k0_1:=K0.out.cell 1;have k0_2:=K0.out.cell 2;simp only [Go.Tw.gA,Go.Tw.gB,Go.Tw.gC] at k0_0 k0_1 k0_2
 by_cases hnc:t.causes.length = 0
 . have hq:((t.causes.length:Int) == 0) = true:=by rw [hnc]; rfl
   go_wp2;go_ret;exact ⟨rfl,HW0.out.trans HX.out⟩
 . have hq:((t.causes.length:Int) == 0) = false:=by rw [beq_eq_false_iff_ne]; omega
   have hs12:t.basics.length + t.causes.length <= 5:=hsz;obtain ⟨k,hk⟩:∃ K,nn % t.causes.length = K:=⟨_,rfl⟩;have hkl:k < t.causes.length:=by rw [<- hk]; exact Nat.mod_lt _ (by omega)
   have hrem:(nn:Int).tmod (t.causes.length:Int) = (k:Int):=by rw [<- hk]; exact (Int.ofNat_tmod _ _).symm
   have hszne:¬ ((t.causes.length:Int) = 0):=by omega
   have hwc:IntKind.i64.wrap (nn:Int) = (nn:Int):=wrap_in (by omega) (by omega)
   obtain ⟨P,hP⟩:∃ P,Q4h t k = P:=⟨_,rfl⟩;have HPE:Hid (P.err = 0):=Lib.hid (by rw [<- hP]; exact J1e HE.out hkl)
   obtain ⟨⟨gn,gd⟩,hg⟩:∃ r,Q9j P P.Q0b = r:=⟨_,rfl⟩;have HR:=Lib.hid hg;have HOF:Hid (J1p t (t.basics.length + k) = ⟨gn,gd⟩):=Lib.hid (by rw [J0o hkl,hP]; exact hg)
   obtain ⟨ek,hek⟩:∃ e,t.basics.length + k = e:=⟨_,rfl⟩;have hwk:IntKind.i64.wrap ((t.basics.length:Int) + (k:Int)) = (ek:Int):=by rw [wrap_in (by omega) (by omega)]; omega
   have HKS:Hid (ek < t.size):=Lib.hid (by unfold Tree.size; omega)
   rw [hek] at HOF;have HWT:Hid (∀ (w:World) (u:Value),IsTree w u t -> Calls Tryz.prog 23 #[u,.int .i64 k] w fun e w'=>∃ x,e = .returned (.tuple #[x,.int .i64 0]) /\ IsTree w' x P /\ Ext w w'):=by
    refine Lib.hid fun w u h=>?_;rw [<- hP];exact Z6c w u t k HE.out hkl (by omega) h
   clear hk hP hg hek hnc hsz;go_wp2_with fail;clear k0_0 k0_1 k0_2;refine (Q8h _ _ (t) ⟨_,_,_,rfl,HT.out⟩ HF.out).mono ?_;rintro e w1 ⟨uu,rfl,hu,hx⟩;have hxx:Ext WB w1:=hx;replace HX:=Lib.hid (HX.out.trans hxx);replace HT:=Lib.hid (HT.out.ext hxx);replace K0:=Lib.hid (K0.out.ext hxx);have HU:=Lib.hid (hu);clear hu;clear hx hxx;go_wp2_with fail;refine (HWT.out _ _ HU.out).mono ?_;rintro e w2 ⟨xt,rfl,hd,hx⟩;have hxx:Ext w1 w2:=hx;replace HX:=Lib.hid (HX.out.trans hxx);replace HT:=Lib.hid (HT.out.ext hxx);replace K0:=Lib.hid (K0.out.ext hxx);replace HU:=Lib.hid (HU.out.ext hxx);have HD:=Lib.hid (hd);clear hd;clear hx hxx;clear HU;obtain ⟨y1,y2,y3,rfl,h3⟩:=HD.out;obtain ⟨A5,capA5,rfl,_,_,_⟩:=h3.basics.opened;obtain ⟨B5,capB5,rfl,_,_,_⟩:=h3.causes.opened;obtain ⟨G5,capG5,rfl,_,_,_⟩:=h3.gates.opened;replace HD:=Lib.hid h3;clear h3;have HKN:=Lib.hid (Blk.made w2 33 #[.slice A5 P.basics.length capA5,.slice B5 P.causes.length capB5,.slice G5 P.gates.length capG5]);have hxn:=Ext.box w2 (.cells #[.slice A5 P.basics.length capA5,.slice B5 P.causes.length capB5,.slice G5 P.gates.length capG5] 33);go_upto_region 38 with fail;replace HX:=Lib.hid (HX.out.trans hxn);replace HT:=Lib.hid (HT.out.ext hxn);replace K0:=Lib.hid (K0.out.ext hxn);replace HD:=Lib.hid (HD.out.ext hxn);have K32:=Lib.hid (HKN.out);clear HKN hxn;obtain ⟨g32,hg32⟩:∃ g,w2.heap.size = g:=⟨_,rfl⟩;rw [hg32] at K32 ⊢;obtain ⟨w3,hww⟩:∃ X,w2.alloc (.cells #[.slice A5 P.basics.length capA5,.slice B5 P.causes.length capB5,.slice G5 P.gates.length capG5] 33) = X:=⟨_,rfl⟩;rw [hww] at HX HT K0 HD K32 ⊢;clear hww hg32;have hdr:=(Ext.refl w3).drew;clear hrem hszne hwc hq;refine Flow.Q3s [.w,.w,.p,.w,.p,.p,.p,.w,.w,.p,.p,.p,.w,.last,.last] [0,1,2,3,4,5,6,7,8,9,10,11,12,13,14] [[],[0],[],[2],[2,3],[],[2,3,4,5],[2,3,4,5,6],[0,1,2,3,4,5,6,7],[0,1,2,3,4,5,6,7,8],[0,1,2,3,4,5,6,7,8,9],[0,1,2,3,4,5,6,7,8,9],[],[0,1,2,3,4,5,6,7,8,9,10,12],[0,1,2,3,4,5,6,7,8,9,10,11,12,13]] [13,14]
    [.c 0 (.agg #[.slice A t.basics.length capa,.slice B t.causes.length capb,.slice G t.gates.length capg]),⟨fun v wz=>IsTree wz (v 1) t,fun _ _ _ hx h=>h.ext hx⟩,.c 2 (.pointer (some ⟨gT,0,none⟩)),.c 3 (.slice A t.basics.length capa),.c 4 (.int .i64 ((t.basics.length:Nat):Int)),.c 5 (.int .i64 k),.c 6 (.int .i64 (ek:Int)),⟨fun v wz=>Q0f wz (v 7) [(ek:Int)],fun _ _ _ hx h=>h.ext hx⟩,.c 8 (.tuple #[.agg #[.int .i64 gn,.int .i64 gd],.int .i64 0]),.c 9 (.tuple #[.agg #[.int .i64 gn,.int .i64 gd],.int .i64 0]),.c 10 (.agg #[.int .i64 gn,.int .i64 gd]),.c 11 (.int .i64 0),⟨fun v wz=>(fun v w'=>∃ g,v 12 = .pointer (some ⟨g,0,none⟩) /\ w3.heap.size <= g /\ Blk w' g 52 #[.int .i64 0,.int .i64 0]) v wz,by rintro v x y hx ⟨g,h1,h2,h3⟩; exact ⟨g,h1,h2,h3.ext hx⟩⟩,.none,.none]
    [fun v w1 w'=>∃ g,v 12 = .pointer (some ⟨g,0,none⟩) /\ Blk w' g 52 #[.int .i64 gn,.int .i64 gd] /\ Below w3.heap.size w1 w',fun v w1 w'=>(∃ g,v 12 = .pointer (some ⟨g,0,none⟩) /\ Blk w' g 52 #[.int .i64 gn,.int .i64 gd] /\ Below w3.heap.size w1 w') /\ v 14 = .int .i64 0] (by kernel_rfl) rfl (by kernel_rfl) ⟨?g0,?g1,?g2,?g3,?g4,?g5,?g6,?g7,?g8,?g9,?g10,?g11,?g12,?g13,?g14,trivial⟩ ?post
   case g0=>
    intro v w1 hx;intro bb hbb;intro K2 hK2;have o1:bb.eval (.tmp 3) = .pointer (some ⟨gT,0,none⟩):=by rw [hbb]; dsimp only; (try simp (discharger:=decide) only [eval_put_ne]); rfl
    exact Q0m (.tmp 3) _ rfl Tryz.Q7r Tryz.Q5k o1 (K0.out.ext (hdr.trans hx)) rfl (hK2 _ _ (Ext.refl _) rfl)
   case g1=>
    intro v w1 hx;(repeat intro (zq:v _ = _));intro bb hbb;subst hbb;intro K hK;go_simp;refine Q0d (Q8h w1 _ t ⟨_,_,_,rfl,HT.out.ext (hdr.trans hx)⟩ HF.out) ?_;rintro e w2 ⟨x,rfl,h,hx2⟩;exact ⟨_,rfl,hK _ _ hx2 h⟩
   case g2 | g5=>
    intro v w1 hx;intro bb hbb;subst hbb;refine ⟨_,fun w=>?_,rfl⟩;go_simp
   case g3=>
    intro v w1 hx;(repeat intro (zq:v _ = _));intro bb hbb;subst hbb;have n0:w1.cell? ⟨gT,0,none⟩ = some (.slice A t.basics.length capa):=(K0.out.ext (hdr.trans hx)).cell 0;intro K hK;go_simp;exact hK _ _ (Ext.refl _) rfl
   case g4 | g6=>
    intro v w1 hx;(repeat intro (zq:v _ = _));intro bb hbb;subst hbb;refine ⟨_,fun w=>?_,rfl⟩;go_simp
   case g7=>
    intro v w1 hx;(repeat intro (zq:v _ = _));intro bb hbb;subst hbb;intro K hK;go_simp;exact hK _ _ (Ext.box _ _) (Q3e (l:=[(ek:Int)]) (by simp))
   case g8=>
    intro v w1 hx (q0:v 0 = _) (q1:IsTree w1 (v 1) t) (q2:v 2 = _) (q3:v 3 = _) (q4:v 4 = _) (q5:v 5 = _) (q6:v 6 = _) (q7:Q0f w1 (v 7) [(ek:Int)]);intro bb hbb;subst hbb;intro K hK;go_simp;refine Q0d (Z4p w1 _ _ t ek gn gd HE.out HKS.out HOF.out q1 q7) ?_;rintro e w2 ⟨rfl,hx2⟩;exact ⟨_,rfl,hK _ _ hx2 rfl⟩
   case g9=>
    intro v w1 hx (q0:v 0 = _) _ (q2:v 2 = _) (q3:v 3 = _) (q4:v 4 = _) (q5:v 5 = _) (q6:v 6 = _) _ (q8:v 8 = _);intro bb hbb;subst hbb;refine ⟨_,fun w=>?_,rfl⟩;go_simp
   case g10 | g11=>
    intro v w1 hx (q0:v 0 = _) _ (q2:v 2 = _) (q3:v 3 = _) (q4:v 4 = _) (q5:v 5 = _) (q6:v 6 = _) _ (q8:v 8 = _) (q9:v 9 = _);intro bb hbb;subst hbb;refine ⟨_,fun w=>?_,rfl⟩;go_simp
   case g12=>
    intro v w1 hx;intro bb hbb;subst hbb;intro K2 hK2;go_simp;exact hK2 _ _ (Ext.box _ _) ⟨_,rfl,(hdr.trans hx).size,Blk.made _ _ _⟩
   case g13=>
    intro v w1 hx (q0:v 0 = _) _ (q2:v 2 = _) (q3:v 3 = _) (q4:v 4 = _) (q5:v 5 = _) (q6:v 6 = _) _ (q8:v 8 = _) (q9:v 9 = _) (q10:v 10 = _) (q12:(fun v w'=>∃ g,v 12 = .pointer (some ⟨g,0,none⟩) /\ w3.heap.size <= g /\ Blk w' g 52 #[.int .i64 0,.int .i64 0]) v w1);intro wl hT;obtain rfl:wl = w1:=hT;intro bb hbb;intro K2 hK2;obtain ⟨g,hg,hgl,hgb⟩:=q12;have o1:bb.eval (.tmp 34) = .pointer (some ⟨g,0,none⟩):=by rw [hbb]; dsimp only; (try simp (discharger:=decide) only [eval_put_ne]); rw [Q0a (by simp only [size_put]; exact (by decide:34 < 364))]; exact hg
    have o2:bb.eval (.tmp 344) = .agg #[.int .i64 gn,.int .i64 gd]:=by rw [hbb]; dsimp only; (try simp (discharger:=decide) only [eval_put_ne]); rw [Q0a (by simp only [size_put]; exact (by decide:344 < 364))]; exact q10
    exact Q1p (.tmp 34) (.tmp 344) _ rfl Tryz.Q1r o1 o2 hgb rfl rfl (Q7s ⟨gn,gd⟩) (fun vv w9 hb hl ho=>hK2 _ _ ⟨g,hg,hb,hl _ hgl⟩)
   case g14=>
    intro v w1 hx (q0:v 0 = _) _ (q2:v 2 = _) (q3:v 3 = _) (q4:v 4 = _) (q5:v 5 = _) (q6:v 6 = _) _ (q8:v 8 = _) (q9:v 9 = _) (q10:v 10 = _) (q11:v 11 = _) _;intro wl hT;replace hT:(fun v w1 w'=>∃ g,v 12 = .pointer (some ⟨g,0,none⟩) /\ Blk w' g 52 #[.int .i64 gn,.int .i64 gd] /\ Below w3.heap.size w1 w') v w1 wl:=hT;intro bb hbb;intro K2 hK2;have o1:bb.eval (.tmp 345) = .int .i64 0:=by rw [hbb]; dsimp only; (try simp (discharger:=decide) only [eval_put_ne,Q0c]); rw [Q0a (by simp only [size_put]; exact (by decide:345 < 364))]; exact q11
    exact Q8j (.tmp 345) rfl o1 (hK2 _ _ ⟨hT,rfl⟩)
   case post =>
    intro v w1 hx;(iterate 1 intro (zq:v _ = _));intro (q1:IsTree w1 (v 1) t);(iterate 5 intro (zq:v _ = _));intro (q7:Q0f w1 (v 7) [(ek:Int)]);(iterate 4 intro (zq:v _ = _));intro (q12:(fun v w'=>∃ g,v 12 = .pointer (some ⟨g,0,none⟩) /\ w3.heap.size <= g /\ Blk w' g 52 #[.int .i64 0,.int .i64 0]) v w1);intro w2 hE;replace hE:(fun v w1 w'=>(∃ g,v 12 = .pointer (some ⟨g,0,none⟩) /\ Blk w' g 52 #[.int .i64 gn,.int .i64 gd] /\ Below w3.heap.size w1 w') /\ v 14 = .int .i64 0) v w1 w2:=hE;simp only [Flow.acts,Act.put];go_simp;obtain ⟨⟨g34,h10,hb6,hl6⟩,h12⟩:=hE;have hxx:Ext w3 w2:=Below.trans (hdr.trans hx) hl6;rw [h10];replace HX:=Lib.hid (HX.out.trans hxx);replace HT:=Lib.hid (HT.out.ext hxx);replace K0:=Lib.hid (K0.out.ext hxx);replace HD:=Lib.hid (HD.out.ext hxx);replace K32:=Lib.hid (K32.out.ext hxx);have K34:=Lib.hid (hb6);clear hxx hx hdr hl6 hb6 h10 h12 hwk q1 q7 q12;(repeat clear zq);obtain ⟨w4,rfl⟩:∃ X,X = w2:=⟨_,rfl⟩;have k32_0:=K32.out.cell 0;have k32_1:=K32.out.cell 1;have k32_2:=K32.out.cell 2;simp only [Go.Tw.gA,Go.Tw.gB,Go.Tw.gC] at k32_0 k32_1 k32_2;go_wp2_with fail;clear k32_0 k32_1 k32_2;refine (X4m _ _ P gn gd HPE.out HR.out ⟨_,_,_,rfl,HD.out⟩).mono ?_;rintro e w5 ⟨rfl,hx⟩;have hxx:Ext w4 w5:=hx;replace HX:=Lib.hid (HX.out.trans hxx);replace HT:=Lib.hid (HT.out.ext hxx);replace K0:=Lib.hid (K0.out.ext hxx);replace HD:=Lib.hid (HD.out.ext hxx);replace K32:=Lib.hid (K32.out.ext hxx);replace K34:=Lib.hid (K34.out.ext hxx);clear hx hxx;have HKN:=Lib.hid (Blk.made w5 52 #[.int .i64 gn,.int .i64 gd]);have hxn:=Ext.box w5 (.cells #[.int .i64 gn,.int .i64 gd] 52);go_upto_region 42 with fail;replace HX:=Lib.hid (HX.out.trans hxn);replace HT:=Lib.hid (HT.out.ext hxn);replace K0:=Lib.hid (K0.out.ext hxn);replace HD:=Lib.hid (HD.out.ext hxn);replace K32:=Lib.hid (K32.out.ext hxn);replace K34:=Lib.hid (K34.out.ext hxn);have K36:=Lib.hid (HKN.out);clear HKN hxn;obtain ⟨g36,hg36⟩:∃ g,w5.heap.size = g:=⟨_,rfl⟩;rw [hg36] at K36 ⊢;obtain ⟨w6,hww⟩:∃ X,w5.alloc (.cells #[.int .i64 gn,.int .i64 gd] 52) = X:=⟨_,rfl⟩;rw [hww] at HX HT K0 HD K32 K34 K36 ⊢;clear hww hg36;have k36_0:=K36.out.cell 0;have k36_1:=K36.out.cell 1;simp only [Go.Tw.gA,Go.Tw.gB,Go.Tw.gC] at k36_0 k36_1;have k34_0:=K34.out.cell 0;have k34_1:=K34.out.cell 1;simp only [Go.Tw.gA,Go.Tw.gB,Go.Tw.gC] at k34_0 k34_1;go_wp2;go_ret;exact ⟨rfl,HW0.out.trans HX.out⟩
end Go.Proofs
