/- Part of the proof of the law PolicyReads. -/
import Derived.Test.YthnobngcipaljaaGreatDoorPp35
import Derived.Test.YthnobngcipaljaaGreatDoorPw02
import Derived.Test.YthnobngcipaljaaGreatDoorPw06
import Derived.Test.YthnobngcipaljaaGreatDoorPw01
set_option maxRecDepth 1000000
set_option maxHeartbeats 64000000
set_option linter.unusedVariables false
set_option linter.unusedSimpArgs false
set_option linter.constructorNameAsVariable false
open Go.Lib (hid)
namespace Go.Proofs
open Go.RowKit Go.Tw Go.Flow
attribute [local go_sem] Oper.semAt_some
theorem J8u {F:Array Value} (h:F.size=284):∃ u:Nat -> Value,F=#[u 0,u 1,u 2,u 3,u 4,u 5,u 6,u 7,u 8,u 9,u 10,u 11,u 12,u 13,u 14,u 15,u 16,u 17,u 18,u 19,u 20,u 21,u 22,u 23,u 24,u 25,u 26,u 27,u 28,u 29,u 30,u 31,u 32,u 33,u 34,u 35,u 36,u 37,u 38,u 39,u 40,u 41,u 42,u 43,u 44,u 45,u 46,u 47,u 48,u 49,u 50,u 51,u 52,u 53,u 54,u 55,u 56,u 57,u 58,u 59,u 60,u 61,u 62,u 63,u 64,u 65,u 66,u 67,u 68,u 69,u 70,u 71,u 72,u 73,u 74,u 75,u 76,u 77,u 78,u 79,u 80,u 81,u 82,u 83,u 84,u 85,u 86,u 87,u 88,u 89,u 90,u 91,u 92,u 93,u 94,u 95,u 96,u 97,u 98,u 99,u 100,u 101,u 102,u 103,u 104,u 105,u 106,u 107,u 108,u 109,u 110,u 111,u 112,u 113,u 114,u 115,u 116,u 117,u 118,u 119,u 120,u 121,u 122,u 123,u 124,u 125,u 126,u 127,u 128,u 129,u 130,u 131,u 132,u 133,u 134,u 135,u 136,u 137,u 138,u 139,u 140,u 141,u 142,u 143,u 144,u 145,u 146,u 147,u 148,u 149,u 150,u 151,u 152,u 153,u 154,u 155,u 156,u 157,u 158,u 159,u 160,u 161,u 162,u 163,u 164,u 165,u 166,u 167,u 168,u 169,u 170,u 171,u 172,u 173,u 174,u 175,u 176,u 177,u 178,u 179,u 180,u 181,u 182,u 183,u 184,u 185,u 186,u 187,u 188,u 189,u 190,u 191,u 192,u 193,u 194,u 195,u 196,u 197,u 198,u 199,u 200,u 201,u 202,u 203,u 204,u 205,u 206,u 207,u 208,u 209,u 210,u 211,u 212,u 213,u 214,u 215,u 216,u 217,u 218,u 219,u 220,u 221,u 222,u 223,u 224,u 225,u 226,u 227,u 228,u 229,u 230,u 231,u 232,u 233,u 234,u 235,u 236,u 237,u 238,u 239,u 240,u 241,u 242,u 243,u 244,u 245,u 246,u 247,u 248,u 249,u 250,u 251,u 252,u 253,u 254,u 255,u 256,u 257,u 258,u 259,u 260,u 261,u 262,u 263,u 264,u 265,u 266,u 267,u 268,u 269,u 270,u 271,u 272,u 273,u 274,u 275,u 276,u 277,u 278,u 279,u 280,u 281,u 282,u 283]:=by
 refine ⟨fun i=>F.getD i undef,?_⟩;have e:F=((List.range 284).map fun i=>F.getD i undef).toArray:=by
  apply Array.ext
  . simp [h]
  . intro i h1 h2
    simp [h1]
 exact e.trans (by kernel_rfl)
theorem K1f (w:World) (v:Value) (s:Q0b) (k:Nat) (hv:Q0h w v s) (hs:Q3k s) (he:s.err=0) (hk:k < s.members.length) :
    Calls Tryz.prog 50 #[v,.int .i64 (k:Int)] w fun e w'=>∃ x,e=.returned (.tuple #[x,.int .i64 (Q9n s k),.int .i64 (if (alone s k).isSome then 0 else 24)]) /\ Q1q w' x ((alone s k).getD []) /\ Ext w w':=by
 have h:=Z0l w v s (k:Int) hv hs;have hm:Q5j s (k:Int)=0:=by
  unfold Q5j;rw [Q0r,if_pos he,Q0r];have:Q0x (X1k s (k:Int)) 10=0:=by
   unfold Q0x X1k;rw [if_neg];simp; omega
  rw [if_pos this]; rfl
 unfold Y3d X8t at h;rw [if_pos hm,if_pos hm,Int.toNat_natCast] at h;have e:countB ((alone s k).getD [])=Q9n s k:=by
  unfold Q9n;cases alone s k <;> rfl
 rw [e] at h;exact h
def setCells (n T k:Nat):Array Value:=((List.range T).map fun i=>Value.bool (decide (i < k) && n.testBit i)).toArray
theorem setCells_size (n T k:Nat):(setCells n T k).size=T:=by simp [setCells]
theorem J4d (n T:Nat):madeCells (Value.bool false).cells (T * 1)=setCells n T 0:=by
 rw [show madeCells (Value.bool false).cells (T * 1)=codeCells n T 0 from J6j n T]
 apply Array.ext (by rw [J2z,setCells_size])
 intro i h1 h2;have h3:=h2;rw [setCells_size] at h3;simp [codeCells,setCells,codeF];intro h4; omega
theorem J3x (n:Nat) {T k:Nat} (hk:k < T):(setCells n T k).setIfInBounds k (.bool (n.testBit k))=setCells n T (k + 1):=by
 apply Array.ext_getElem?
 intro i;rw [Array.getElem?_setIfInBounds]
 by_cases he:k=i
 . subst he
   rw [if_pos rfl,if_pos (by rw [setCells_size]; exact hk)]
   simp [setCells,hk]
 . rw [if_neg he]
   by_cases hi:i < T
   . simp only [setCells,List.getElem?_toArray,List.getElem?_map,List.getElem?_range hi,Option.map_some]
     congr 3
     by_cases h:i < k
     . rw [decide_eq_true h,decide_eq_true (by omega)]
     . rw [decide_eq_false h,decide_eq_false (by omega)]
   . rw [Array.getElem?_eq_none (by rw [setCells_size]; omega),Array.getElem?_eq_none (by rw [setCells_size]; omega)]
theorem J4l (n T:Nat):setCells n T T=((J2r n T).map Value.bool).toArray:=by
 unfold setCells J2r;rw [List.map_map]
 congr 1
 refine List.map_congr_left fun i hi=>?_;simp [List.mem_range.1 hi]
theorem J7m (w:World) (v u:Value) (s:Q0b) (k:Nat) (l:List Bool) (hv:Q0h w v s) (hu:Q1q w u l) (hs:Q3k s) (he:s.err=0) (hk:k < s.members.length) (hl:s.ships.length=l.length) :
    Calls Tryz.prog 49 #[v,.int .i64 (k:Int),u] w fun e w'=>∃ x,e=.returned (.tuple #[x,.int .i64 0]) /\ Q0d w' x ((Q2e s k).X3n l) /\ Ext w w':=by
 have h:=J8g w v u s (k:Int) l hv hu hs;have hm:J2t s (k:Int) l=0:=by
  unfold J2t;have h1:Q0x (X1k s (k:Int)) 10=0:=by
   unfold Q0x X1k;rw [if_neg];simp; omega
  have h2:Q0x (!decide (l.length=s.ships.length)) 2=0:=by
   unfold Q0x;rw [if_neg];simp; omega
  rw [Q0r,if_pos he,Q0r,if_pos h1,Q0r,if_pos h2]; rfl
 unfold J4i at h;rw [if_pos hm,hm,Int.toNat_natCast] at h;exact h
theorem K2e (w:World) (v u:Value) (s:Q0b) (p:List Rul) (k:Nat) (cl:List Bool) (hv:Q0h w v s) (hu:Q0w w u p) (hs:Q3k s) (hV:Q1b s) (he:s.err=0) (hp:Q2d s.hist p=0) (hk:k < s.members.length) (hcl:Q0m p (Q0c s.members k)=cl) :
    Calls Tryz.prog 57 #[v,u,.int .i64 (k:Int)] w fun e w'=>∃ x y,e=.returned (.tuple #[.agg #[x,y],.int .i64 0]) /\ Q1q w' x cl /\ Q0d w' y ((Q2e s k).X3n cl) /\ Ext w w':=by
 have h:=Z1f w v u s p (k:Int) hv hu hs (J6z hV hp);have hm:X1r s p (k:Int)=0:=by
  unfold X1r;rw [Q0r,if_pos (J7t he hp),Q0r];have:Q0x (X1k s (k:Int)) 10=0:=by
   unfold Q0x X1k;rw [if_neg];simp; omega
  rw [if_pos this]; rfl
 refine h.mono ?_;rintro e w' ⟨⟨x,y,rfl,h1,h2⟩,hx⟩;unfold Z5x at h1;unfold Z4j at h2;rw [if_pos hm,Int.toNat_natCast,hcl] at h1 h2;rw [hm];exact ⟨x,y,rfl,h1,h2,hx⟩
theorem J3p {s:Q0b} {k:Nat} {b:List Bool} (h:alone s k=some b):Q9n s k=countB b:=by unfold Q9n; rw [h]
theorem J8b {s:Q0b} {k m:Nat} {b:List Bool} (h:alone s k=some b) (hk:(Q2e s k).keeps s.limit (J2r m s.ships.length)=true):Q9n s k <= countB (J2r m s.ships.length):=by
 rw [J3p h]; exact (J3b h).2.2 _ (J2p _ _) hk
theorem K1e {s:Q0b} {k m T:Nat} {b:List Bool} (h:alone s k=some b) (hT:s.ships.length=T) (hk:(Q2e s k).keeps s.limit (J2r m s.ships.length)=false):J4p b T (m + 1)=J4p b T m:=by
 have hd:decide (J2r m T=b)=false:=decide_eq_false fun e=>by
  rw [hT,e,(J3b h).2.1] at hk; cases hk
 rw [J7i,hd,Bool.or_false]
def J7f (S wt:Int) (cl:List Bool) (t:Nat):Int:=S + wt * countB (cl.take t)
theorem K0e (S wt:Int) (cl:List Bool):J7f S wt cl 0=S:=by simp [J7f,countB]
theorem K1p (S wt:Int) (cl:List Bool):J7f S wt cl cl.length=S + wt * countB cl:=by simp [J7f]
theorem take_snoc {cl:List Bool} {t:Nat} (ht:t < cl.length):cl.take (t + 1)=cl.take t ++ [bx cl t]:=by
 rw [List.take_succ_eq_append_getElem ht]
 congr 2
 simp [bx,ht]
theorem K0g {S wt:Int} {cl:List Bool} {t:Nat} (ht:t < cl.length) (h:bx cl t=true):J7f S wt cl (t + 1)=J7f S wt cl t + wt:=by
 unfold J7f;rw [take_snoc ht,J3e,h];simp only [if_true,Int.mul_add]; omega
theorem J9k {S wt:Int} {cl:List Bool} {t:Nat} (ht:t < cl.length) (h:bx cl t=false):J7f S wt cl (t + 1)=J7f S wt cl t:=by
 unfold J7f;rw [take_snoc ht,J3e,h];simp
theorem K2g {S wt:Int} {cl:List Bool} (hw:0 <= wt /\ wt <= 1000) (hl:cl.length <= 6) (t:Nat):S <= J7f S wt cl t /\ J7f S wt cl t <= S + 6000:=by
 unfold J7f;have h1:=countB_le (cl.take t);have h2:=J3f (cl.take t);rw [List.length_take] at h1;have h3:=Int.mul_nonneg hw.1 h2;have h4:wt * countB (cl.take t) <= 1000 * countB (cl.take t):=Int.mul_le_mul_of_nonneg_right hw.2 h2;omega
theorem J8n {s:Q0b} {p:List Rul} {k T:Nat} {S0 wt an:Int} (hS:Q1b s) (hk:k < s.members.length) (h4:T <= 4) (hT:s.ships.length=T) (h0:J2u s p k=S0) (hw:Q0i s.members k=wt) (ha:Q9n s k=an) (hh:has (Q3r s p) k=true):(0 <= S0 /\ S0 <= 60000) /\ (0 <= wt /\ wt <= 1000) /\ 0 <= wt * an /\ wt * an <= 6000:=by
 have h1:=J5q (p:=p) hS k (by omega)
 have h8:=hS.some.2;have h2:=hS.weights k hk;obtain ⟨b,hb,hle⟩:=J4g hS hk hh;have h3:=countB_le (Q0m p (Q0c s.members k));rw [Q2n,(hS.shaped k hk).1] at h3;rw [J3p hb] at ha;have h5:=J3f b;rw [hw] at h2;rw [ha] at hle h5;have h6:0 <= wt * an:=Int.mul_nonneg (by omega) h5
 have h7:wt * an <= 1000 * an:=Int.mul_le_mul_of_nonneg_right (by omega) h5
 omega
theorem J3s {z0:World} {s:Q0b} {A Xc X1 Y1 Z1:Option Addr} {T M capa capb gs gc gm nc cc cN k bm off l1 c1 l2 c2 l3 c3:Nat} {lim wt an:Int} {nm:ByteArray} {Q:Exit -> Act -> World -> Prop} {a0 a1 a2 a4 a5 a6 a7 a8 a9 a10 a11 a13 a14 a15 a16 a17 a18 a19 a20 a21 a25 a26 a27 a29 a30 a31 a32 a33 a34 a35 a36 a37 a38 a39 a40 a41 a42 a43 a44 a45 a46 a47 a48 a49 a50 a51 a52 a53 a54 a55 a56 a57 a58 a59 a60 a61 a62 a63 a64 a65 a66 a67 a68 a69 a70 a71 a72 a73 a74 a75 a76 a77 a78 a79 a80 a81 a82 a83 a84 a85 a86 a87 a88 a89 a90 a91 a92 a93 a94 a95 a96 a97 a98 a99 a100 a101 a102 a103 a104 a105 a106 a107 a108 a109 a110 a111 a112 a113 a114 a115 a116 a117 a118 a119 a120 a121 a122 a123 a124 a125 a126 a127 a128 a129 a130 a131 a132 a133 a134 a135 a136 a137 a138 a139 a140 a141 a142 a143 a144 a145 a146 a147 a148 a149 a150 a151 a152 a153 a154 a155 a156 a157 a158 a159 a160 a161 a162 a163 a164 a165 a166 a167 a168 a169 a170 a171 a172 a173 a174 a175 a176 a177 a178 a179 a180 a181 a182 a183 a184 a185 a186 a187 a188 a189 a190 a191 a192 a193 a194 a195 a196 a197 a198 a199 a200 a201 a202 a203 a204 a205 a206 a207 a208 a209 a210 a211 a212 a213 a214 a215 a216 a217 a218 a219 a220 a221 a222 a223 a224 a225 a226 a227 a228 a229 a230 a231 a232 a233 a234 a235 a236 a237 a238 a239 a240 a241 a242 a243 a244 a245 a246 a247 a248 a249 a250 a251 a252 a253 a254 a255 a256 a257 a258 a259 a260 a261 a262 a263 a264 a265 a266 a267 a268 a269 a270 a271 a272 a273 a274 a275 a276 a277 a278 a279 a280 a281 a282 a283:Value} (H2:Hid (Q7y z0 (.slice A T capa) (.slice (some ⟨bm,off,none⟩) M capb) s)) (KB:Hid (Blk z0 gs 25 #[.int .i64 lim,.slice A T capa,.slice (some ⟨bm,off,none⟩) M capb])) (KC:Hid (Blk z0 gc 47 #[.slice Xc nc cc])) (FC:Hid (Q3m z0 (.slice Xc nc cc) (J2k s cN))) (KM:Hid (Blk z0 gm 68 #[.string nm,.int .i64 wt,.slice X1 l1 c1,.slice Y1 l2 c2,.slice Z1 l3 c3])) (HSEA:Hid (∀ W,Q7y W (.slice A T capa) (.slice (some ⟨bm,off,none⟩) M capb) s -> Q0h W (.agg #[.int .i64 lim,.slice A T capa,.slice (some ⟨bm,off,none⟩) M capb]) s)) (HS:Hid (Q3k s)) (HT:Hid (s.ships.length=T)) (HVS:Hid (Q1b s)) (HE:Hid (s.err=0)) (HT4:Hid (T <= 4)) (HCR:Hid (Q2d s.hist (J2k s cN)=0)) (HPC:Hid (∀ W,Q3m W (.slice Xc nc cc) (J2k s cN) -> Q0w W (.agg #[.slice Xc nc cc]) (J2k s cN))) (HQL:Hid ((J2k s cN).length <= 4096)) (HQ8:Hid (∀ k,k < (J2k s cN).length -> (Q0n (J2k s cN) k).length <= 4096)) (HKM:Hid (k < s.members.length)) (HWT:Hid (Q0i s.members k=wt)) (HAN:Hid (Q9n s k=an)) (HHT:Hid (has (Q3r s (J2k s cN)) k=true))
    (HQ:Hid (∀ (b6 b36 b37 b39 b243 b244 b245 b246 b247 b248 b249 b250 b251 b252 b253 b254 b255 b256 b257 b258 b259 b260 b261 b262 b263 b264 b265 b266 b267 b268 b269 b270 b271 b272:Value) (w':World),Ext z0 w' -> Q .normal ⟨#[a0,a1,a2,.pointer (some ⟨gs,0,none⟩),a4,a5,b6,a7,a8,a9,a10,a11,.pointer (some ⟨gc,0,none⟩),a13,a14,a15,a16,a17,a18,a19,a20,a21,.int .i64 (J2u s (J2k s cN) (k + 1)),.int .i64 (k:Int),.pointer (some ⟨gm,0,none⟩),a25,a26,a27,.int .i64 an,a29,a30,a31,a32,a33,a34,a35,b36,b37,a38,b39,a40,a41,a42,a43,a44,a45,a46,a47,a48,a49,a50,a51,a52,a53,a54,a55,a56,a57,a58,a59,a60,a61,a62,a63,a64,a65,a66,a67,a68,a69,a70,a71,a72,a73,a74,a75,a76,a77,a78,a79,a80,a81,a82,a83,a84,a85,a86,a87,a88,a89,a90,a91,a92,a93,a94,a95,a96,a97,a98,a99,a100,a101,a102,a103,a104,a105,a106,a107,a108,a109,a110,a111,a112,a113,a114,a115,a116,a117,a118,a119,a120,a121,a122,a123,a124,a125,a126,a127,a128,a129,a130,a131,a132,a133,a134,a135,a136,a137,a138,a139,a140,a141,a142,a143,a144,a145,a146,a147,a148,a149,a150,a151,a152,a153,a154,a155,a156,a157,a158,a159,a160,a161,a162,a163,a164,a165,a166,a167,a168,a169,a170,a171,a172,a173,a174,a175,a176,a177,a178,a179,a180,a181,a182,a183,a184,a185,a186,a187,a188,a189,a190,a191,a192,a193,a194,a195,a196,a197,a198,a199,a200,a201,a202,a203,a204,a205,a206,a207,a208,a209,a210,a211,a212,a213,a214,a215,a216,a217,a218,a219,a220,a221,a222,a223,a224,a225,a226,a227,a228,a229,a230,a231,a232,a233,a234,a235,a236,a237,a238,a239,a240,a241,a242,b243,b244,b245,b246,b247,b248,b249,b250,b251,b252,b253,b254,b255,b256,b257,b258,b259,b260,b261,b262,b263,b264,b265,b266,b267,b268,b269,b270,b271,b272,a273,a274,a275,a276,a277,a278,a279,a280,a281,a282,a283],[]⟩ w')) :
    (K2p Tryz.f14 50).wp Tryz.prog Q ⟨#[a0,a1,a2,.pointer (some ⟨gs,0,none⟩),a4,a5,a6,a7,a8,a9,a10,a11,.pointer (some ⟨gc,0,none⟩),a13,a14,a15,a16,a17,a18,a19,a20,a21,.int .i64 (J2u s (J2k s cN) k),.int .i64 (k:Int),.pointer (some ⟨gm,0,none⟩),a25,a26,a27,.int .i64 an,a29,a30,a31,a32,a33,a34,a35,a36,a37,a38,a39,a40,a41,a42,a43,a44,a45,a46,a47,a48,a49,a50,a51,a52,a53,a54,a55,a56,a57,a58,a59,a60,a61,a62,a63,a64,a65,a66,a67,a68,a69,a70,a71,a72,a73,a74,a75,a76,a77,a78,a79,a80,a81,a82,a83,a84,a85,a86,a87,a88,a89,a90,a91,a92,a93,a94,a95,a96,a97,a98,a99,a100,a101,a102,a103,a104,a105,a106,a107,a108,a109,a110,a111,a112,a113,a114,a115,a116,a117,a118,a119,a120,a121,a122,a123,a124,a125,a126,a127,a128,a129,a130,a131,a132,a133,a134,a135,a136,a137,a138,a139,a140,a141,a142,a143,a144,a145,a146,a147,a148,a149,a150,a151,a152,a153,a154,a155,a156,a157,a158,a159,a160,a161,a162,a163,a164,a165,a166,a167,a168,a169,a170,a171,a172,a173,a174,a175,a176,a177,a178,a179,a180,a181,a182,a183,a184,a185,a186,a187,a188,a189,a190,a191,a192,a193,a194,a195,a196,a197,a198,a199,a200,a201,a202,a203,a204,a205,a206,a207,a208,a209,a210,a211,a212,a213,a214,a215,a216,a217,a218,a219,a220,a221,a222,a223,a224,a225,a226,a227,a228,a229,a230,a231,a232,a233,a234,a235,a236,a237,a238,a239,a240,a241,a242,a243,a244,a245,a246,a247,a248,a249,a250,a251,a252,a253,a254,a255,a256,a257,a258,a259,a260,a261,a262,a263,a264,a265,a266,a267,a268,a269,a270,a271,a272,a273,a274,a275,a276,a277,a278,a279,a280,a281,a282,a283],[]⟩ z0:=by
 conv=>arg 2; whnf
 have HXA:=hid (Ext.refl z0);obtain ⟨cl,hcl⟩:∃ z,Q0m (J2k s cN) (Q0c s.members k)=z:=⟨_,rfl⟩;have HCL:=hid hcl;clear hcl;have HCN:Hid (cl.length=T):=hid (by rw [<- HCL.out,Q2n,(HVS.out.shaped k HKM.out).1,HT.out])
 obtain ⟨S0,hS0⟩:∃ z,J2u s (J2k s cN) k=z:=⟨_,rfl⟩;have HS0:=hid hS0;rw [hS0];clear hS0;have HRM:Hid (J7f (S0 - wt * an) wt cl T=J2u s (J2k s cN) (k + 1)):=hid (by rw [K2c HHT.out,HS0.out,HWT.out,HAN.out,HCL.out,<- HCN.out,K1p])
 have HBN:Hid ((0 <= S0 /\ S0 <= 60000) /\ (0 <= wt /\ wt <= 1000) /\ 0 <= wt * an /\ wt * an <= 6000):=hid (J8n HVS.out HKM.out HT4.out HT.out HS0.out HWT.out HAN.out HHT.out);go_wp2_with fail;have hdr:=(Ext.refl z0).drew;have HWZ:Hid (IntKind.i64.wrap (wt * an)=wt * an):=hid (Q2v _ (by have:=HBN.out; omega) (by have:=HBN.out; omega))
 refine Flow.Q4m [.w,.w,.w,.w,.p,.w,.p,.p,.p,.w,.last,.last] [0,1,2,3,4,5,6,7,8,9,10,11] [[],[0],[],[0,1,2],[],[0,1,2,3,4],[0,1,2,3,4,5],[0,1,2,3,4,5,6],[0,1,2,3,4,5,6],[],[0,1,2,3,4,5,6,7,9],[0,1,2,3,4,5,6,7,8,9,10]] [10,11]
  [.c 0 (.agg #[.int .i64 lim,.slice A T capa,.slice (some ⟨bm,off,none⟩) M capb]),⟨fun v wz=>(fun v w'=>Q0h w' (v 1) s) v wz,by intro v a b hx h; exact Q0h.ext h hx⟩,.c 2 (.agg #[.slice Xc nc cc]),⟨fun v wz=>(fun v w'=>Q0w w' (v 3) (J2k s cN)) v wz,by intro v a b hx h; exact Q0w.ext h hx⟩,.c 4 (.int .i64 (k:Int)),⟨fun v wz=>(fun v w'=>∃ x y,v 5=.tuple #[.agg #[x,y],.int .i64 0] /\ Q1q w' x cl /\ Q0d w' y ((Q2e s k).X3n cl)) v wz,by rintro v a b hx ⟨x,y,h1,h2,h3⟩; exact ⟨x,y,h1,h2.ext hx,h3.ext hx⟩⟩,⟨fun v wz=>(fun v w'=>v 6=v 5) v wz,by intro v a b hx h; exact h⟩,⟨fun v wz=>(fun v w'=>v 5=.tuple #[v 7,.int .i64 0]) v wz,by intro v a b hx h; exact h⟩,.c 8 (.int .i64 0),⟨fun v wz=>(fun v w'=>∃ g,v 9=.pointer (some ⟨g,0,none⟩) /\ Blk w' g 96 #[.slice none 0 0,.slice none 0 0] /\ z0.heap.size <= g) v wz,by rintro v a b hx ⟨g,h1,h2,h3⟩; exact ⟨g,h1,h2.ext hx,h3⟩⟩,.none,.none]
  [fun v w1 w'=>∃ g X c Y d,v 9=.pointer (some ⟨g,0,none⟩) /\ Blk w' g 96 #[.slice X cl.length c,.slice Y ((Q2e s k).X3n cl).length d] /\ Q1q w' (.slice X cl.length c) cl /\ Ext z0 w',fun v w1 w'=>v 11=.int .i64 0 /\ ∃ g X c Y d,v 9=.pointer (some ⟨g,0,none⟩) /\ Blk w' g 96 #[.slice X cl.length c,.slice Y ((Q2e s k).X3n cl).length d] /\ Q1q w' (.slice X cl.length c) cl /\ Ext z0 w'] (by kernel_rfl) rfl (by kernel_rfl) ⟨?g0,?g1,?g2,?g3,?g4,?g5,?g6,?g7,?g8,?g9,?g10,?g11,trivial⟩ ?post
 case g0=>
  intro v w1 hx;intro bb hbb;intro K2 hK2;have o1:bb.eval (.tmp 3)=.pointer (some ⟨gs,0,none⟩):=by rw [hbb]; dsimp only; (try simp (discharger:=decide) only [eval_put_ne]); rfl
  exact Q0p (.tmp 3) _ rfl Tryz.K0b Tryz.J8l o1 (KB.out.ext (hdr.trans hx)) rfl (hK2 _ _ (Ext.refl _) rfl)
 case g1=>
  intro v w1 hx;(repeat intro (zq:v _=_));intro bb hbb;subst hbb;intro K2 hK2;go_simp;refine Q0e (Z9u w1 _ s (HSEA.out _ (H2.out.ext (hdr.trans hx))) HS.out) ?_;rintro e w2 ⟨u,rfl,hu,hx2⟩;exact ⟨_,rfl,hK2 _ _ hx2 hu⟩
 case g2=>
  intro v w1 hx;intro bb hbb;intro K2 hK2;have o1:bb.eval (.tmp 12)=.pointer (some ⟨gc,0,none⟩):=by rw [hbb]; dsimp only; (try simp (discharger:=decide) only [eval_put_ne]); rfl
  exact Q0p (.tmp 12) _ rfl Tryz.Z9i Tryz.Z7k o1 (KC.out.ext (hdr.trans hx)) rfl (hK2 _ _ (Ext.refl _) rfl)
 case g3=>
  intro v w1 hx (q0:v 0=_) _ (q2:v 2=_);intro bb hbb;subst hbb;intro K2 hK2;go_simp;refine Q0e (J1w w1 _ (J2k s cN) (HPC.out _ (FC.out.ext (hdr.trans hx))) HQL.out HQ8.out) ?_;rintro e w2 ⟨u,rfl,hu,hx2⟩;exact ⟨_,rfl,hK2 _ _ hx2 hu⟩
 case g4=>
  intro v w1 hx;intro bb hbb;subst hbb;refine ⟨_,fun w=>?_,rfl⟩;go_simp
 case g5=>
  intro v w1 hx (q0:v 0=_) (q1:(fun v w'=>Q0h w' (v 1) s) v w1) (q2:v 2=_) (q3:(fun v w'=>Q0w w' (v 3) (J2k s cN)) v w1) (q4:v 4=_);intro bb hbb;subst hbb;intro K2 hK2;go_simp;refine Q0e (K2e w1 _ _ s _ k cl q1 q3 HS.out HVS.out HE.out HCR.out HKM.out HCL.out) ?_;rintro e w2 ⟨u,v,rfl,hu,hv,hx2⟩;exact ⟨_,rfl,hK2 _ _ hx2 ⟨_,_,rfl,hu,hv⟩⟩
 case g6=>
  intro v w1 hx (q0:v 0=_) _ (q2:v 2=_) _ (q4:v 4=_) _;intro bb hbb;have o1:bb.eval (.tmp 249)=v 5:=by rw [hbb]; dsimp only; (try simp (discharger:=decide) only [eval_put_ne]); rw [Q0a (by simp only [size_put]; exact (by decide:249 < 284))]
  exact ⟨_,fun w=>J7y (.tmp 249) rfl o1,rfl⟩
 case g7=>
  intro v w1 hx (q0:v 0=_) _ (q2:v 2=_) _ (q4:v 4=_) (q5:(fun v w'=>∃ x y,v 5=.tuple #[.agg #[x,y],.int .i64 0] /\ Q1q w' x cl /\ Q0d w' y ((Q2e s k).X3n cl)) v w1) (q6:(fun v w'=>v 6=v 5) v w1);intro bb hbb;obtain ⟨x,y,h5,_⟩:=q5;have o1:bb.eval (.tmp 243)=.tuple #[.agg #[x,y],.int .i64 0]:=by rw [<- h5,<- q6]; rw [hbb]; dsimp only; (try simp (discharger:=decide) only [eval_put_ne]); rw [Q0a (by simp only [size_put]; exact (by decide:243 < 284))]
  exact ⟨_,fun w=>J3g (.tmp 243) 0 rfl o1 (fun w=>K2q w _ _),h5⟩
 case g8=>
  intro v w1 hx (q0:v 0=_) _ (q2:v 2=_) _ (q4:v 4=_) (q5:(fun v w'=>∃ x y,v 5=.tuple #[.agg #[x,y],.int .i64 0] /\ Q1q w' x cl /\ Q0d w' y ((Q2e s k).X3n cl)) v w1) (q6:(fun v w'=>v 6=v 5) v w1);intro bb hbb;obtain ⟨x,y,h5,_⟩:=q5;have o1:bb.eval (.tmp 243)=.tuple #[.agg #[x,y],.int .i64 0]:=by rw [<- h5,<- q6]; rw [hbb]; dsimp only; (try simp (discharger:=decide) only [eval_put_ne]); rw [Q0a (by simp only [size_put]; exact (by decide:243 < 284))]
  exact ⟨_,fun w=>J3g (.tmp 243) 1 rfl o1 (fun w=>K2w w _ _),rfl⟩
 case g9=>
  intro v w1 hx;intro bb hbb;subst hbb;intro K hK;go_simp;exact hK _ _ (Ext.box _ _) ⟨_,rfl,Blk.made _ _ _,(hdr.trans hx).size⟩
 case g10=>
  intro v w1 hx (q0:v 0=_) _ (q2:v 2=_) _ (q4:v 4=_) (q5:(fun v w'=>∃ x y,v 5=.tuple #[.agg #[x,y],.int .i64 0] /\ Q1q w' x cl /\ Q0d w' y ((Q2e s k).X3n cl)) v w1) _ (q7:(fun v w'=>v 5=.tuple #[v 7,.int .i64 0]) v w1) (q9:(fun v w'=>∃ g,v 9=.pointer (some ⟨g,0,none⟩) /\ Blk w' g 96 #[.slice none 0 0,.slice none 0 0] /\ z0.heap.size <= g) v w1);intro wl hT;obtain rfl:wl=w1:=hT;intro bb hbb;intro K hK;obtain ⟨x,y,h5,hi5,hj5⟩:=q5;obtain ⟨g,e9,h9,h9s⟩:=q9;obtain ⟨X,c,rfl,-,-,-⟩:=hi5.opened;obtain ⟨Y,d,rfl,-,-,-⟩:=hj5.opened;have h7:v 7=.agg #[.slice X cl.length c,.slice Y ((Q2e s k).X3n cl).length d]:=by have h:=h5.symm.trans q7; simp only [Value.tuple.injEq,Array.mk.injEq,List.cons.injEq,and_true] at h; exact h.symm
  have o1:bb.eval (.tmp 36)=.pointer (some ⟨g,0,none⟩):=by rw [hbb]; dsimp only; (try simp (discharger:=decide) only [eval_put_ne]); rw [Q0a (by simp only [size_put]; exact (by decide:36 < 284))]; exact e9
  have o2:bb.eval (.tmp 250)=.agg #[.slice X cl.length c,.slice Y ((Q2e s k).X3n cl).length d]:=by rw [hbb]; dsimp only; (try simp (discharger:=decide) only [eval_put_ne]); rw [Q0a (by simp only [size_put]; exact (by decide:250 < 284))]; exact h7
  exact Q2b (.tmp 36) (.tmp 250) _ rfl Tryz.Y7b o1 o2 h9 rfl rfl Y1w (fun vv w' hb hl ho=>hK _ _ ⟨g,_,_,_,_,e9,hb,Y6m hi5 h9 (fun k _ hk=>ho k hk),Below.trans (hdr.trans hx) (hl _ h9s)⟩)
 case g11=>
  intro v w1 hx (q0:v 0=_) _ (q2:v 2=_) _ (q4:v 4=_) _ _ _ (q8:v 8=_) _;intro wl hT;replace hT:(fun v w1 w'=>∃ g X c Y d,v 9=.pointer (some ⟨g,0,none⟩) /\ Blk w' g 96 #[.slice X cl.length c,.slice Y ((Q2e s k).X3n cl).length d] /\ Q1q w' (.slice X cl.length c) cl /\ Ext z0 w') v w1 wl:=hT;intro bb hbb;subst hbb;intro K hK;go_simp;exact hK _ _ ⟨rfl,hT⟩
 case post =>
  intro v w1 hx;(iterate 1 intro (zq:v _=_));intro (q1:(fun v w'=>Q0h w' (v 1) s) v w1);(iterate 1 intro (zq:v _=_));intro (q3:(fun v w'=>Q0w w' (v 3) (J2k s cN)) v w1);(iterate 1 intro (zq:v _=_));intro (q5:(fun v w'=>∃ x y,v 5=.tuple #[.agg #[x,y],.int .i64 0] /\ Q1q w' x cl /\ Q0d w' y ((Q2e s k).X3n cl)) v w1) (q6:(fun v w'=>v 6=v 5) v w1) (q7:(fun v w'=>v 5=.tuple #[v 7,.int .i64 0]) v w1);(iterate 1 intro (zq:v _=_));intro (q9:(fun v w'=>∃ g,v 9=.pointer (some ⟨g,0,none⟩) /\ Blk w' g 96 #[.slice none 0 0,.slice none 0 0] /\ z0.heap.size <= g) v w1);intro w2 hE;replace hE:(fun v w1 w'=>v 11=.int .i64 0 /\ ∃ g X c Y d,v 9=.pointer (some ⟨g,0,none⟩) /\ Blk w' g 96 #[.slice X cl.length c,.slice Y ((Q2e s k).X3n cl).length d] /\ Q1q w' (.slice X cl.length c) cl /\ Ext z0 w') v w1 w2:=hE;simp only [Flow.acts,Act.put];go_simp;obtain ⟨h11,gx,Xp,cp,Yp,dp,e9,hbc,hic,hxz⟩:=hE
  try rw [h11]
  try rw [e9]
  rw [HCN.out] at hbc hic;obtain ⟨npk,hnpk⟩:∃ z,((Q2e s k).X3n cl).length=z:=⟨_,rfl⟩;rw [hnpk] at hbc;have hxx:=hxz;replace HXA:=hid (HXA.out.trans hxx);replace H2:=hid (H2.out.ext hxx);replace KB:=hid (KB.out.ext hxx);replace KC:=hid (KC.out.ext hxx);replace FC:=hid (FC.out.ext hxx);replace KM:=hid (KM.out.ext hxx);have KX:=hid (hbc);have FX:=hid (hic);obtain ⟨z1,rfl⟩:∃ Z,Z=w2:=⟨_,rfl⟩;clear hx hdr hxx q1 q3 q5 q6 q7 q9 hbc hic hxz h11 e9 hnpk;(repeat clear zq);have hwz:=HWZ.out;have hws:IntKind.i64.wrap (S0 - wt * an)=S0 - wt * an:=Y0g (by have:=HBN.out; omega) (by have:=HBN.out; omega)
  have m0:=KM.out.cell 0;have m1:=KM.out.cell 1;have m2:=KM.out.cell 2;have m3:=KM.out.cell 3;have m4:=KM.out.cell 4;have x0:=KX.out.cell 0;have x1:=KX.out.cell 1;simp only [Go.Tw.gA,Go.Tw.gB,Go.Tw.gC] at m0 m1 m2 m3 m4 x0 x1;clear m0 m2 m3 m4 x1;go_wp2_with fail;clear hwz hws
  go_loopw [22,263] (fun sv iv wr=>∃ t:Nat,t <= T /\ iv=.int .i64 t /\ sv=.int .i64 (J7f (S0 - wt * an) wt cl t) /\ wr=z1) (fun _ iv _=>T - (intOf iv).toNat)
  case atStart=>exact ⟨0,Nat.zero_le _,rfl,by rw [K0e],rfl⟩
  case round =>
   obtain ⟨t,ht,rfl,rfl,hwr⟩:=hrel;subst hwr;have HFR:Hid (J7f (S0 - wt * an) wt cl t <= 100000 /\ -100000 <= J7f (S0 - wt * an) wt cl t):=hid (by have:=HBN.out; have:=K2g (S:=S0 - wt * an) (wt:=wt) (cl:=cl) (by omega) (by have:=HCN.out; have:=HT4.out; omega) t; omega)
   by_cases htt:t < T
   . skip
     have htI:(t:Int) < (T:Int):=by omega
     obtain ⟨Uc,cu,hUc,-,-,hcu⟩:=FX.out.opened;obtain ⟨b',o',hX',-,hc'⟩:=hcu t (by rw [HCN.out]; exact htt)
     injection hUc with hU1 hU2 hU3;subst hU1;obtain rfl:=hX';clear hcu hU2 hU3;have htl:t < cl.length:=by rw [HCN.out]; exact htt
     obtain ⟨sq,hsq⟩:∃ z,J7f (S0 - wt * an) wt cl t=z:=⟨_,rfl⟩;cases hq:bx cl t with
     | false =>
       rw [hq] at hc';have HNX:=hid (J9k (S:=S0 - wt * an) (wt:=wt) htl hq);rw [hsq] at HNX HFR ⊢;clear hq htl hsq;go_wp2;go_roundw
       all_goals have hwt4:wrap64 ((t:Int) + 1)=(t:Int) + 1:=by have:=HT4.out; unfold wrap64; omega
       case rel=>exact ⟨t + 1,by omega,by rw [hwt4]; go_num,by rw [HNX.out],by first | rfl | trivial⟩
       case measure=>rw [hwt4]; simp [intOf]; omega
     | true =>
       rw [hq] at hc';have HNX:=hid (K0g (S:=S0 - wt * an) (wt:=wt) htl hq);rw [hsq] at HNX HFR ⊢;clear hq htl hsq;have hwa:IntKind.i64.wrap (sq + wt)=sq + wt:=Y0g (by have:=HFR.out; have:=HBN.out; omega) (by have:=HFR.out; have:=HBN.out; omega)
       go_wp2;go_roundw
       all_goals have hwt4:wrap64 ((t:Int) + 1)=(t:Int) + 1:=by have:=HT4.out; unfold wrap64; omega
       case rel=>exact ⟨t + 1,by omega,by rw [hwt4]; go_num,by rw [HNX.out],by first | rfl | trivial⟩
       case measure=>rw [hwt4]; simp [intOf]; omega
   . skip
     have htI:¬ (t:Int) < (T:Int):=by omega
     have htT:t=T:=by omega
     subst htT;rw [HRM.out];clear HFR HWZ m1 x0;go_wp2_with fail;exact HQ.out _ _ _ _ _ _ _ _ _ _ _ _ _ _ _ _ _ _ _ _ _ _ _ _ _ _ _ _ _ _ _ _ _ _ _ HXA.out
theorem K1u {w z0:World} {s:Q0b} {A B Xc Xk:Option Addr} {T M capa capb gs gc nc cc nk ck cN:Nat} {lim rg:Int} (HXA:Hid (Ext w z0)) (HWD:Hid (Words z0)) (H2:Hid (Q7y z0 (.slice A T capa) (.slice B M capb) s)) (KB:Hid (Blk z0 gs 25 #[.int .i64 lim,.slice A T capa,.slice B M capb])) (KC:Hid (Blk z0 gc 47 #[.slice Xc nc cc])) (FC:Hid (Q3m z0 (.slice Xc nc cc) (J2k s cN))) (GK:Hid (Q0d z0 (.slice Xk nk ck) (Q3r s (J2k s cN)))) (HSEA:Hid (∀ W,Q7y W (.slice A T capa) (.slice B M capb) s -> Q0h W (.agg #[.int .i64 lim,.slice A T capa,.slice B M capb]) s)) (HS:Hid (Q3k s)) (HT:Hid (s.ships.length=T)) (HM:Hid (s.members.length=M)) (HLIM:Hid (s.limit=lim)) (HVS:Hid (Q1b s)) (HE:Hid (s.err=0)) (HT4:Hid (T <= 4)) (HCR:Hid (Q2d s.hist (J2k s cN)=0)) (HPC:Hid (∀ W,Q3m W (.slice Xc nc cc) (J2k s cN) -> Q0w W (.agg #[.slice Xc nc cc]) (J2k s cN))) (HQL:Hid ((J2k s cN).length <= 4096)) (HQ8:Hid (∀ k,k < (J2k s cN).length -> (Q0n (J2k s cN) k).length <= 4096)) (HRG:Hid (Y4l s (J2k s cN)=rg))
    (F:Array Value) (hF:F.size=284) (f3:F[3]?=some (.pointer (some ⟨gs,0,none⟩))) (f12:F[12]?=some (.pointer (some ⟨gc,0,none⟩))) (f18:F[18]?=some (.slice Xk nk ck)) (f20:F[20]?=some (.int .i64 rg)) :
    (codeFrom Tryz.f14 17).wp Tryz.prog (bodyPost Tryz.prog Tryz.f14 (fun e w'=>e=.returned (.bool true) /\ Ext w w')) ⟨F,[]⟩ z0:=by
 obtain ⟨u,rfl⟩:=J8u hF;replace f3:u 3=_:=Option.some.inj f3;replace f12:u 12=_:=Option.some.inj f12;replace f18:u 18=_:=Option.some.inj f18;replace f20:u 20=_:=Option.some.inj f20;rw [f3,f12,f18,f20];clear hF f3 f12 f18 f20
 conv=>arg 2; whnf
 have h2m:=H2.out.members;have d0KB:=KB.out.cell 0;have d1KB:=KB.out.cell 1;have d2KB:=KB.out.cell 2;simp only [Go.Tw.gA,Go.Tw.gB,Go.Tw.gC] at d0KB d1KB d2KB;go_wp2_with fail;clear d0KB d1KB d2KB
 go_loopw [22,136] (fun sv iv wr=>∃ k:Nat,k <= M /\ iv=.int .i64 k /\ sv=.int .i64 (J2u s (J2k s cN) k) /\ Ext z0 wr) (fun _ iv _=>M - (intOf iv).toNat)
 case atStart=>exact ⟨0,Nat.zero_le _,rfl,rfl,Ext.refl _⟩
 case round =>
  obtain ⟨k,hk,rfl,rfl,hxr⟩:=hrel;have HXB:=hid hxr;replace HXA:=hid (HXA.out.trans hxr);replace HWD:=hid (HWD.out.ext hxr);replace H2:=hid (H2.out.ext hxr);replace KB:=hid (KB.out.ext hxr);replace KC:=hid (KC.out.ext hxr);replace FC:=hid (FC.out.ext hxr);replace GK:=hid (GK.out.ext hxr);obtain ⟨z1,rfl⟩:∃ Z,Z=wr:=⟨_,rfl⟩;clear hxr
  by_cases hlt:k < M
  . skip
    have hkI:(k:Int) < (M:Int):=by omega
    have hkm:k < s.members.length:=by rw [HM.out]; exact hlt
    have HKM:=hid hkm;obtain ⟨B2,cb2,hB2,-,-,hcm⟩:=H2.out.members.opened;rw [HM.out] at hB2 hcm;cases hB2;obtain ⟨bm,off,x,y,zz,rfl,-,e0,e1,e2,e3,e4,hmx,hmy,hmz,-⟩:=hcm k hlt;obtain ⟨X1,c1,rfl,-,-,-⟩:=hmx.opened;obtain ⟨Y1,c2,rfl,-,-,-⟩:=hmy.opened;obtain ⟨Z1,c3,rfl,-,-,-⟩:=hmz.opened;obtain ⟨nm,hnm⟩:∃ z,Q1h s.members k=z:=⟨_,rfl⟩;rw [hnm] at e0;obtain ⟨wt,hwt⟩:∃ z,Q0i s.members k=z:=⟨_,rfl⟩;rw [hwt] at e1;have HWT:=hid hwt;obtain ⟨l1,hl1⟩:∃ z,(Q0c s.members k).length=z:=⟨_,rfl⟩;rw [hl1] at e2;obtain ⟨l2,hl2⟩:∃ z,(Q0t s.members k).length=z:=⟨_,rfl⟩;rw [hl2] at e3;obtain ⟨l3,hl3⟩:∃ z,(Q0y s.members k).length=z:=⟨_,rfl⟩;rw [hl3] at e4;clear hnm hwt hl1 hl2 hl3 hmx hmy hmz hcm h2m;have hbx:=Ext.box z1 (.cells #[.string nm,.int .i64 wt,.slice X1 l1 c1,.slice Y1 l2 c2,.slice Z1 l3 c3] 68);have d0KB:=(KB.out.ext hbx).cell 0;have d1KB:=(KB.out.ext hbx).cell 1;have d2KB:=(KB.out.ext hbx).cell 2;simp only [Go.Tw.gA,Go.Tw.gB,Go.Tw.gC] at d0KB d1KB d2KB;go_wp2_with fail;change Calls _ _ _ (z1.alloc (.cells #[.string nm,.int .i64 wt,.slice X1 l1 c1,.slice Y1 l2 c2,.slice Z1 l3 c3] 68)) _;obtain ⟨W,hWW,k0,HXW,eW⟩:=Q1t z1 68 #[.string nm,.int .i64 wt,.slice X1 l1 c1,.slice Y1 l2 c2,.slice Z1 l3 c3];rw [hWW];clear hWW;refine (Z9u _ _ s (HSEA.out _ (H2.out.ext HXW.out)) HS.out).mono ?_;rintro e z2 ⟨ug,rfl,hug,hx⟩;have hxx:Ext z1 z2:=HXW.out.trans hx;replace HXA:=hid (HXA.out.trans hxx);replace HWD:=hid (HWD.out.ext hxx);replace H2:=hid (H2.out.ext hxx);replace KB:=hid (KB.out.ext hxx);replace KC:=hid (KC.out.ext hxx);replace FC:=hid (FC.out.ext hxx);replace GK:=hid (GK.out.ext hxx);replace HXB:=hid (HXB.out.ext hxx);have KM:=hid (k0.ext hx);have FG:=hid (hug);clear hx hxx HXW eW k0 hbx d0KB d1KB d2KB;obtain ⟨gm,hgm⟩:∃ z,z1.heap.size=z:=⟨_,rfl⟩;rw [hgm] at KM ⊢;have HGM:=hid hgm;clear hgm e0 e1 e2 e3 e4 hug;go_wp2_with fail;refine (K1f _ _ s k FG.out HS.out HE.out HKM.out).mono ?_;rintro e z3 ⟨xa,rfl,hxa,hx⟩;have hxx:Ext z2 z3:=hx;replace HXA:=hid (HXA.out.trans hxx);clear FG;replace HWD:=hid (HWD.out.ext hxx);replace H2:=hid (H2.out.ext hxx);replace KB:=hid (KB.out.ext hxx);replace KC:=hid (KC.out.ext hxx);replace FC:=hid (FC.out.ext hxx);replace GK:=hid (GK.out.ext hxx);replace HXB:=hid (HXB.out.ext hxx);replace KM:=hid (KM.out.ext hxx);have FA:=hid (hxa);clear hx hxx;clear hxa;cases ha:alone s k with
    | none =>
      have HA:=hid ha;obtain ⟨Xa,ca,hxa,-,-,-⟩:=FA.out.opened;rw [ha] at hxa FA;subst hxa;clear ha;rw [show (none:Option (List Bool)).getD []=[] from rfl] at FA ⊢
      rw [show (if (none:Option (List Bool)).isSome=true then (0:Int) else 24)=24 from rfl]
      rw [show ([]:List Bool).length=0 from rfl] at FA ⊢
      have HHF:Hid (has (Q3r s (J2k s cN)) k=false):=hid (by rw [<- Bool.not_eq_true]; intro h; obtain ⟨b,hb,-⟩:=J4g HVS.out HKM.out h; rw [HA.out] at hb; cases hb)
      obtain ⟨an,han⟩:∃ z,Q9n s k=z:=⟨_,rfl⟩;rw [han];have HAN:=hid han;clear han;have hsh:=Z9z (n:=T) (by have:=HT4.out; omega)
      obtain ⟨T2,hT2⟩:∃ z,2 ^ T=z:=⟨_,rfl⟩;have HT2:=hid hT2;have hsh2:=K2u (n:=T) (by have:=HT4.out; omega)
      rw [hT2] at hsh hsh2;clear hT2;have HB16:Hid (T2 <= 16):=hid (by rw [<- HT2.out]; exact Nat.le_trans (Nat.pow_le_pow_right (n:=2) (by omega) HT4.out) (by decide))
      have d0KB:=KB.out.cell 0;have d1KB:=KB.out.cell 1;have d2KB:=KB.out.cell 2;simp only [Go.Tw.gA,Go.Tw.gB,Go.Tw.gC] at d0KB d1KB d2KB;go_wp2_with fail;refine (J3l _ _ _ _ GK.out).mono ?_;rintro e w9 ⟨rfl,hw9⟩;subst hw9;rw [HHF.out];go_wp2_with fail;clear d0KB d1KB d2KB hsh hsh2
      go_loopw [28,29,168] (fun lv fv iv wr=>∃ m:Nat,m <= T2 /\ iv=.int .i64 m /\ lv=.int .i64 0 /\ fv=.bool false /\ Ext z3 wr) (fun _ _ iv _=>T2 - (intOf iv).toNat)
      case atStart=>exact ⟨0,Nat.zero_le _,rfl,rfl,rfl,Ext.refl _⟩
      case round =>
       obtain ⟨m,hm,rfl,rfl,rfl,hxr⟩:=hrel;have HXC:=hid hxr;replace HXA:=hid (HXA.out.trans hxr);replace HWD:=hid (HWD.out.ext hxr);replace H2:=hid (H2.out.ext hxr);replace KB:=hid (KB.out.ext hxr);replace KC:=hid (KC.out.ext hxr);replace FC:=hid (FC.out.ext hxr);replace GK:=hid (GK.out.ext hxr);replace HXB:=hid (HXB.out.ext hxr);replace KM:=hid (KM.out.ext hxr);replace FA:=hid (FA.out.ext hxr);obtain ⟨z4,rfl⟩:∃ Z,Z=wr:=⟨_,rfl⟩;clear hxr
       by_cases hmt:m < T2
       . skip
         have hmI:(m:Int) < (T2:Int):=by omega
         have HMT:=hid hmt;have d0KB:=KB.out.cell 0;have d1KB:=KB.out.cell 1;have d2KB:=KB.out.cell 2;simp only [Go.Tw.gA,Go.Tw.gB,Go.Tw.gC] at d0KB d1KB d2KB;obtain ⟨i0,hi,hz0,hz1,hz2⟩:=info_parts Tryz.Y8e;go_upto_region 28 with fail
         go_step
         refine Q1z rfl ?_;go_simp;refine Q1z rfl ?_;go_simp;refine Q1z rfl ?_;go_simp;refine Q1z rfl ?_;have hT4:=HT4.out;refine J6w (.tmp 173) _ _ rfl i0 _ 1 1 Tryz.underlying82 hi hz0 hz1 hz2 T rfl (by omega) (by decide) ?_
         have hb:=Blk.made z4 4 (madeCells (Value.bool false).cells (T * 1));have hx:=Ext.box z4 (.cells (madeCells (Value.bool false).cells (T * 1)) 4);obtain ⟨wb,hwb⟩:∃ X,z4.alloc (.cells (madeCells (Value.bool false).cells (T * 1)) 4)=X:=⟨_,rfl⟩;rw [hwb] at hb hx ⊢;rw [show madeCells (Value.bool false).cells (T * 1)=setCells m T 0 from J4d m T] at hb
         have HBC:=hid hb;have HXW2:=hid hx;obtain ⟨gk,hgk⟩:∃ x,z4.heap.size=x:=⟨_,rfl⟩;rw [hgk] at HBC ⊢;have HGK:=hid hgk;clear hwb hb hx hgk d0KB d1KB d2KB;go_wp2
         go_loopw [32,177] (fun cv iv wr=>∃ t:Nat,t <= T /\ iv=.int .i64 t /\ cv=.int .i64 (countB ((J2r m T).take t)) /\ Blk wr gk 4 (setCells m T t) /\ Below gk wb wr) (fun _ iv _=>T - (intOf iv).toNat)
         case atStart=>exact ⟨0,Nat.zero_le _,rfl,rfl,HBC.out,Below.refl _ _⟩
         case round =>
          obtain ⟨t,ht,rfl,rfl,hblk,hbel⟩:=hrel;have HBL:=hid hblk;have HBE:=hid hbel;clear hblk hbel
          by_cases htt:t < T
          . skip
            have htI:(t:Int) < (T:Int):=by omega
            have hbit:=Z2f (s:=m) (by have:=HB16.out; omega) t
            have hcnt:countB ((J2r m T).take (t + 1))=countB ((J2r m T).take t) + if m.testBit t then 1 else 0:=by rw [J8x _ _ _ htt,J3e]
            have HSU:=hid (J3x m htt);have hcb:=countB_le ((J2r m T).take t);rw [List.length_take,J2p] at hcb;obtain ⟨cn,hcn⟩:∃ z,countB ((J2r m T).take t)=z:=⟨_,rfl⟩;rw [hcn] at hcnt hcb ⊢;have hwr:IntKind.i64.wrap (cn + 1)=cn + 1:=Q2v _ (by omega) (by omega)
            have hcell:wr.cell? ⟨gk,t,none⟩=some (.bool false):=by rw [HBL.out.cell]; simp [setCells,htt]
            have hfr:=HBL.out.frozen t;cases hq:m.testBit t with
            | false =>
              rw [hq] at hbit hcnt HSU;have HCNT:Hid (countB ((J2r m T).take (t + 1))=cn):=hid (by rw [hcnt]; simp)
              clear hcnt hq hcn;have HSET:=hid (HBL.out.set t (.bool false));have HSEB:=hid (HBE.out.setCell (p:=⟨gk,t,none⟩) (Nat.le_refl _) (.bool false));go_wp2;go_roundw
              case rel=>exact ⟨t + 1,by omega,by go_num,by rw [HCNT.out],by rw [<- HSU.out]; exact HSET.out,HSEB.out⟩
              case measure=>simp [intOf]; omega
            | true =>
              rw [hq] at hbit hcnt HSU;have HCNT:Hid (countB ((J2r m T).take (t + 1))=cn + 1):=hid (by rw [hcnt]; simp)
              clear hcnt hq hcn;have HSET:=hid (HBL.out.set t (.bool true));have HSEB:=hid (HBE.out.setCell (p:=⟨gk,t,none⟩) (Nat.le_refl _) (.bool true));go_wp2;go_roundw
              case rel=>exact ⟨t + 1,by omega,by go_num,by rw [HCNT.out],by rw [<- HSU.out]; exact HSET.out,HSEB.out⟩
              case measure=>simp [intOf]; omega
          . skip
            have htI:¬ (t:Int) < (T:Int):=by omega
            have htT:t=T:=by omega
            have hcT:countB ((J2r m T).take t)=countB (J2r m T):=by rw [htT,List.take_of_length_le (by rw [J2p]; omega)]
            rw [hcT];have hbt:Blk wr gk 4 ((J2r m T).map Value.bool).toArray:=by have h:=HBL.out; rw [htT,J4l] at h; exact h
            have hxe:Ext z4 wr:=Below.trans HXW2.out (HBE.out.mono (Nat.le_of_eq HGK.out));have hcl:=J7s hbt (by rw [J2p]; omega)
            rw [J2p] at hcl;replace HXA:=hid (HXA.out.trans hxe);have HXD:=hid hxe;replace HWD:=hid (HWD.out.ext hxe);replace H2:=hid (H2.out.ext hxe);replace KB:=hid (KB.out.ext hxe);replace KC:=hid (KC.out.ext hxe);replace FC:=hid (FC.out.ext hxe);replace GK:=hid (GK.out.ext hxe);replace HXB:=hid (HXB.out.ext hxe);replace KM:=hid (KM.out.ext hxe);replace FA:=hid (FA.out.ext hxe);replace HXC:=hid (HXC.out.ext hxe);have FCL:=hid hcl;obtain ⟨z5,rfl⟩:∃ Z,Z=wr:=⟨_,rfl⟩;clear hxe hcl hbt hcT HBL HBE HXW2 HBC;have d0KB:=KB.out.cell 0;have d1KB:=KB.out.cell 1;have d2KB:=KB.out.cell 2;simp only [Go.Tw.gA,Go.Tw.gB,Go.Tw.gC] at d0KB d1KB d2KB;go_wp2_with fail;refine (Z9u _ _ s (HSEA.out _ H2.out) HS.out).mono ?_;rintro e z6 ⟨ug,rfl,hug,hx⟩;have hxx:Ext z5 z6:=hx;replace HXA:=hid (HXA.out.trans hxx);replace HWD:=hid (HWD.out.ext hxx);replace H2:=hid (H2.out.ext hxx);replace KB:=hid (KB.out.ext hxx);replace KC:=hid (KC.out.ext hxx);replace FC:=hid (FC.out.ext hxx);replace GK:=hid (GK.out.ext hxx);replace HXB:=hid (HXB.out.ext hxx);replace KM:=hid (KM.out.ext hxx);replace FA:=hid (FA.out.ext hxx);replace HXC:=hid (HXC.out.ext hxx);replace FCL:=hid (FCL.out.ext hxx);have FG:=hid (hug);clear hx hxx d0KB d1KB d2KB;clear hug;go_wp2_with (at_builtin; refine halted ?_);unfold Q1i;have hbx:=Ext.box z6 (.cells #[] 4);have hes:(z6.alloc (.cells #[] 4)).heap.size=z6.heap.size + 1:=by simp
            have hown:Q0z (z6.alloc (.cells #[] 4)) z6.heap.size 4 1 (fun b=>[Value.bool b]) (.slice (some ⟨z6.heap.size,0,none⟩) 0 0) ([]:List Bool):=World.ownsRow_made z6 #[] 0 (Nat.le_refl _) (by unfold maxLen; omega) rfl
            obtain ⟨wd,hwd⟩:∃ Z,z6.alloc (.cells #[] 4)=Z:=⟨_,rfl⟩;rw [hwd] at hbx hes hown ⊢;clear hwd;have HLL:Hid ((J2r m T).length=T):=hid (J2p m T);obtain ⟨Uc,cc9,hUc,-,-,hcu⟩:=FCL.out.opened;have hA:0 < (J2r m T).length -> ∃ ad,(some ⟨gk,0,none⟩:Option Addr)=some ad /\ ∀ j z,((J2r m T).flatMap fun b=>[Value.bool b])[j]?=some z -> wd.cell? (ad.add j)=some z:=fun h0=>by
             refine ⟨_,rfl,fun j z hj=>?_⟩;rw [J3d,List.getElem?_map] at hj;obtain ⟨y,hy,rfl⟩:=Option.map_eq_some_iff.1 hj;obtain ⟨hjl,rfl⟩:=List.getElem?_eq_some_iff.1 hy;obtain ⟨b',o',he',-,hc'⟩:=hcu j hjl;injection hUc with hU1;rw [<- hU1] at he';cases he';have:=hbx.cell hc';rw [addr_add,this];simp [bx,hjl]
            refine Q1z (o:=⟨some 201,_,_,_,_,_⟩) rfl ?_;refine Q9q (.tmp 199) (.tmp 200) 82 rfl z6.heap.size 4 i0 (.bool false) 1 1 Tryz.underlying82 hi hz0 hz1 hz2 rfl (by decide) (fun b=>[Value.bool b]) (fun _=>rfl) _ [] (J2r m T) rfl hown (some ⟨gk,0,none⟩) T (by rw [HLL.out]; rfl) hA (fun z hz=>?_) (by rw [HLL.out]; simp; omega) (by decide) hbx.size (fun v' w9 hown' hgrow=>?_)
            . rw [J3d] at hz
              obtain ⟨y,_,rfl⟩:=List.mem_map.1 hz;rfl
            have hxc:Ext z6 w9:=Below.grown hbx hgrow hbx.size (fun j hj=>(hown.lt j hj).1);have hob:Q0q w9 z6.heap.size 4 .bool v' (J2r m T):=by have h:=hown'; unfold Q0z at h; rw [J3d] at h; exact h
            have HV:=hid (hob.bools (by rw [HLL.out]; omega))
            replace HXA:=hid (HXA.out.trans hxc);replace HWD:=hid (HWD.out.ext hxc);replace H2:=hid (H2.out.ext hxc);replace KB:=hid (KB.out.ext hxc);replace KC:=hid (KC.out.ext hxc);replace FC:=hid (FC.out.ext hxc);replace GK:=hid (GK.out.ext hxc);replace HXB:=hid (HXB.out.ext hxc);replace KM:=hid (KM.out.ext hxc);replace FA:=hid (FA.out.ext hxc);replace HXC:=hid (HXC.out.ext hxc);replace FCL:=hid (FCL.out.ext hxc);replace FG:=hid (FG.out.ext hxc);obtain ⟨z7,rfl⟩:∃ Z,Z=w9:=⟨_,rfl⟩;clear hbx hes hown hA hown' hgrow hxc hob hcu hUc;go_wp2_with fail;refine (J7m _ _ _ s k (J2r m T) FG.out HV.out HS.out HE.out HKM.out (by rw [HT.out,J2p])).mono ?_
            rintro e z8 ⟨xf,rfl,hf,hx⟩;have hxx:Ext z7 z8:=hx;replace HXA:=hid (HXA.out.trans hxx);clear FG;replace HWD:=hid (HWD.out.ext hxx);replace H2:=hid (H2.out.ext hxx);replace KB:=hid (KB.out.ext hxx);replace KC:=hid (KC.out.ext hxx);replace FC:=hid (FC.out.ext hxx);replace GK:=hid (GK.out.ext hxx);replace HXB:=hid (HXB.out.ext hxx);replace KM:=hid (KM.out.ext hxx);replace FA:=hid (FA.out.ext hxx);replace HXC:=hid (HXC.out.ext hxx);replace FCL:=hid (FCL.out.ext hxx);have FF:=hid (hf);clear hx hxx;clear hf HV;have d0KB:=KB.out.cell 0;have d1KB:=KB.out.cell 1;have d2KB:=KB.out.cell 2;simp only [Go.Tw.gA,Go.Tw.gB,Go.Tw.gC] at d0KB d1KB d2KB;go_wp2_with fail;refine (J8w _ _ lim _ FF.out).mono ?_;rintro e w9 ⟨rfl,hw9⟩;subst hw9;obtain ⟨kq,hkq⟩:∃ z,(Q2e s k).keeps s.limit (J2r m s.ships.length)=z:=⟨_,rfl⟩;have HKQ:=hid hkq;rw [show J9o lim ((Q2e s k).X3n (J2r m T))=kq by rw [<- hkq,J7r,HLIM.out,HT.out]]
            clear hkq d0KB d1KB d2KB;obtain rfl:false=kq:=by rw [<- HKQ.out]; exact (K1l HA.out m).symm
            go_wp2;go_roundw
            all_goals have hwm:wrap64 ((m:Int) + 1)=(m:Int) + 1:=by have:=HMT.out; have:=HB16.out; unfold wrap64; omega
            case rel=>exact ⟨m + 1,by have:=HMT.out; omega,by rw [hwm]; go_num,rfl,rfl,HXC.out⟩
            case measure=>have:=HMT.out; rw [hwm]; simp [intOf]; omega
       . skip
         have hmI:¬ (m:Int) < (T2:Int):=by omega
         have hmT:m=T2:=by omega
         subst hmT;go_wp2_with fail;refine (J3l _ _ _ _ GK.out).mono ?_;rintro e w9 ⟨rfl,hw9⟩;subst hw9;rw [HHF.out];have HRM:=hid (J9c HHF.out);go_wp2;go_roundw
         all_goals have hwk:wrap64 ((k:Int) + 1)=(k:Int) + 1:=by have:=HKM.out; have:=HVS.out.some.2; unfold wrap64; omega
         case rel=>exact ⟨k + 1,by have:=HKM.out; have:=HM.out; omega,by rw [hwk]; go_num,by rw [HRM.out],HXB.out⟩
         case measure=>have:=HKM.out; have:=HM.out; rw [hwk]; simp [intOf]; omega
    | some bl =>
      have HA:=hid ha;obtain ⟨Xa,ca,hxa,-,-,-⟩:=FA.out.opened;rw [ha] at hxa FA;subst hxa;clear ha;rw [show (some bl:Option (List Bool)).getD []=bl from rfl] at FA ⊢
      rw [show (if (some bl:Option (List Bool)).isSome=true then (0:Int) else 24)=0 from rfl]
      have HBLN:Hid (bl.length=T):=hid (by rw [<- HT.out]; exact (J3b HA.out).1)
      rw [HBLN.out] at FA ⊢;obtain ⟨an,han⟩:∃ z,Q9n s k=z:=⟨_,rfl⟩;rw [han];have HAN:=hid han;clear han;have hsh:=Z9z (n:=T) (by have:=HT4.out; omega)
      obtain ⟨T2,hT2⟩:∃ z,2 ^ T=z:=⟨_,rfl⟩;have HT2:=hid hT2;have hsh2:=K2u (n:=T) (by have:=HT4.out; omega)
      rw [hT2] at hsh hsh2;clear hT2;have HB16:Hid (T2 <= 16):=hid (by rw [<- HT2.out]; exact Nat.le_trans (Nat.pow_le_pow_right (n:=2) (by omega) HT4.out) (by decide))
      have d0KB:=KB.out.cell 0;have d1KB:=KB.out.cell 1;have d2KB:=KB.out.cell 2;simp only [Go.Tw.gA,Go.Tw.gB,Go.Tw.gC] at d0KB d1KB d2KB;go_wp2_with fail;clear d0KB d1KB d2KB hsh hsh2
      go_loopw [28,29,168] (fun lv fv iv wr=>∃ m:Nat,m <= T2 /\ iv=.int .i64 m /\ lv=.int .i64 (J4c s k m an) /\ fv=.bool (J4p bl T m) /\ Ext z3 wr) (fun _ _ iv _=>T2 - (intOf iv).toNat)
      case atStart=>exact ⟨0,Nat.zero_le _,rfl,rfl,rfl,Ext.refl _⟩
      case round =>
       obtain ⟨m,hm,rfl,rfl,rfl,hxr⟩:=hrel;have HXC:=hid hxr;replace HXA:=hid (HXA.out.trans hxr);replace HWD:=hid (HWD.out.ext hxr);replace H2:=hid (H2.out.ext hxr);replace KB:=hid (KB.out.ext hxr);replace KC:=hid (KC.out.ext hxr);replace FC:=hid (FC.out.ext hxr);replace GK:=hid (GK.out.ext hxr);replace HXB:=hid (HXB.out.ext hxr);replace KM:=hid (KM.out.ext hxr);replace FA:=hid (FA.out.ext hxr);obtain ⟨z4,rfl⟩:∃ Z,Z=wr:=⟨_,rfl⟩;clear hxr
       by_cases hmt:m < T2
       . skip
         have hmI:(m:Int) < (T2:Int):=by omega
         have HMT:=hid hmt;have d0KB:=KB.out.cell 0;have d1KB:=KB.out.cell 1;have d2KB:=KB.out.cell 2;simp only [Go.Tw.gA,Go.Tw.gB,Go.Tw.gC] at d0KB d1KB d2KB;obtain ⟨i0,hi,hz0,hz1,hz2⟩:=info_parts Tryz.Y8e;go_upto_region 28 with fail
         go_step
         refine Q1z rfl ?_;go_simp;refine Q1z rfl ?_;go_simp;refine Q1z rfl ?_;go_simp;refine Q1z rfl ?_;have hT4:=HT4.out;refine J6w (.tmp 173) _ _ rfl i0 _ 1 1 Tryz.underlying82 hi hz0 hz1 hz2 T rfl (by omega) (by decide) ?_
         have hb:=Blk.made z4 4 (madeCells (Value.bool false).cells (T * 1));have hx:=Ext.box z4 (.cells (madeCells (Value.bool false).cells (T * 1)) 4);obtain ⟨wb,hwb⟩:∃ X,z4.alloc (.cells (madeCells (Value.bool false).cells (T * 1)) 4)=X:=⟨_,rfl⟩;rw [hwb] at hb hx ⊢;rw [show madeCells (Value.bool false).cells (T * 1)=setCells m T 0 from J4d m T] at hb
         have HBC:=hid hb;have HXW2:=hid hx;obtain ⟨gk,hgk⟩:∃ x,z4.heap.size=x:=⟨_,rfl⟩;rw [hgk] at HBC ⊢;have HGK:=hid hgk;clear hwb hb hx hgk d0KB d1KB d2KB;go_wp2
         go_loopw [32,177] (fun cv iv wr=>∃ t:Nat,t <= T /\ iv=.int .i64 t /\ cv=.int .i64 (countB ((J2r m T).take t)) /\ Blk wr gk 4 (setCells m T t) /\ Below gk wb wr) (fun _ iv _=>T - (intOf iv).toNat)
         case atStart=>exact ⟨0,Nat.zero_le _,rfl,rfl,HBC.out,Below.refl _ _⟩
         case round =>
          obtain ⟨t,ht,rfl,rfl,hblk,hbel⟩:=hrel;have HBL:=hid hblk;have HBE:=hid hbel;clear hblk hbel
          by_cases htt:t < T
          . skip
            have htI:(t:Int) < (T:Int):=by omega
            have hbit:=Z2f (s:=m) (by have:=HB16.out; omega) t
            have hcnt:countB ((J2r m T).take (t + 1))=countB ((J2r m T).take t) + if m.testBit t then 1 else 0:=by rw [J8x _ _ _ htt,J3e]
            have HSU:=hid (J3x m htt);have hcb:=countB_le ((J2r m T).take t);rw [List.length_take,J2p] at hcb;obtain ⟨cn,hcn⟩:∃ z,countB ((J2r m T).take t)=z:=⟨_,rfl⟩;rw [hcn] at hcnt hcb ⊢;have hwr:IntKind.i64.wrap (cn + 1)=cn + 1:=Q2v _ (by omega) (by omega)
            have hcell:wr.cell? ⟨gk,t,none⟩=some (.bool false):=by rw [HBL.out.cell]; simp [setCells,htt]
            have hfr:=HBL.out.frozen t;cases hq:m.testBit t with
            | false =>
              rw [hq] at hbit hcnt HSU;have HCNT:Hid (countB ((J2r m T).take (t + 1))=cn):=hid (by rw [hcnt]; simp)
              clear hcnt hq hcn;have HSET:=hid (HBL.out.set t (.bool false));have HSEB:=hid (HBE.out.setCell (p:=⟨gk,t,none⟩) (Nat.le_refl _) (.bool false));go_wp2;go_roundw
              case rel=>exact ⟨t + 1,by omega,by go_num,by rw [HCNT.out],by rw [<- HSU.out]; exact HSET.out,HSEB.out⟩
              case measure=>simp [intOf]; omega
            | true =>
              rw [hq] at hbit hcnt HSU;have HCNT:Hid (countB ((J2r m T).take (t + 1))=cn + 1):=hid (by rw [hcnt]; simp)
              clear hcnt hq hcn;have HSET:=hid (HBL.out.set t (.bool true));have HSEB:=hid (HBE.out.setCell (p:=⟨gk,t,none⟩) (Nat.le_refl _) (.bool true));go_wp2;go_roundw
              case rel=>exact ⟨t + 1,by omega,by go_num,by rw [HCNT.out],by rw [<- HSU.out]; exact HSET.out,HSEB.out⟩
              case measure=>simp [intOf]; omega
          . skip
            have htI:¬ (t:Int) < (T:Int):=by omega
            have htT:t=T:=by omega
            have hcT:countB ((J2r m T).take t)=countB (J2r m T):=by rw [htT,List.take_of_length_le (by rw [J2p]; omega)]
            rw [hcT];have hbt:Blk wr gk 4 ((J2r m T).map Value.bool).toArray:=by have h:=HBL.out; rw [htT,J4l] at h; exact h
            have hxe:Ext z4 wr:=Below.trans HXW2.out (HBE.out.mono (Nat.le_of_eq HGK.out));have hcl:=J7s hbt (by rw [J2p]; omega)
            rw [J2p] at hcl;replace HXA:=hid (HXA.out.trans hxe);have HXD:=hid hxe;replace HWD:=hid (HWD.out.ext hxe);replace H2:=hid (H2.out.ext hxe);replace KB:=hid (KB.out.ext hxe);replace KC:=hid (KC.out.ext hxe);replace FC:=hid (FC.out.ext hxe);replace GK:=hid (GK.out.ext hxe);replace HXB:=hid (HXB.out.ext hxe);replace KM:=hid (KM.out.ext hxe);replace FA:=hid (FA.out.ext hxe);replace HXC:=hid (HXC.out.ext hxe);have FCL:=hid hcl;obtain ⟨z5,rfl⟩:∃ Z,Z=wr:=⟨_,rfl⟩;clear hxe hcl hbt hcT HBL HBE HXW2 HBC;have d0KB:=KB.out.cell 0;have d1KB:=KB.out.cell 1;have d2KB:=KB.out.cell 2;simp only [Go.Tw.gA,Go.Tw.gB,Go.Tw.gC] at d0KB d1KB d2KB;go_wp2_with fail;refine (Z9u _ _ s (HSEA.out _ H2.out) HS.out).mono ?_;rintro e z6 ⟨ug,rfl,hug,hx⟩;have hxx:Ext z5 z6:=hx;replace HXA:=hid (HXA.out.trans hxx);replace HWD:=hid (HWD.out.ext hxx);replace H2:=hid (H2.out.ext hxx);replace KB:=hid (KB.out.ext hxx);replace KC:=hid (KC.out.ext hxx);replace FC:=hid (FC.out.ext hxx);replace GK:=hid (GK.out.ext hxx);replace HXB:=hid (HXB.out.ext hxx);replace KM:=hid (KM.out.ext hxx);replace FA:=hid (FA.out.ext hxx);replace HXC:=hid (HXC.out.ext hxx);replace FCL:=hid (FCL.out.ext hxx);have FG:=hid (hug);clear hx hxx d0KB d1KB d2KB;clear hug;go_wp2_with (at_builtin; refine halted ?_);unfold Q1i;have hbx:=Ext.box z6 (.cells #[] 4);have hes:(z6.alloc (.cells #[] 4)).heap.size=z6.heap.size + 1:=by simp
            have hown:Q0z (z6.alloc (.cells #[] 4)) z6.heap.size 4 1 (fun b=>[Value.bool b]) (.slice (some ⟨z6.heap.size,0,none⟩) 0 0) ([]:List Bool):=World.ownsRow_made z6 #[] 0 (Nat.le_refl _) (by unfold maxLen; omega) rfl
            obtain ⟨wd,hwd⟩:∃ Z,z6.alloc (.cells #[] 4)=Z:=⟨_,rfl⟩;rw [hwd] at hbx hes hown ⊢;clear hwd;have HLL:Hid ((J2r m T).length=T):=hid (J2p m T);obtain ⟨Uc,cc9,hUc,-,-,hcu⟩:=FCL.out.opened;have hA:0 < (J2r m T).length -> ∃ ad,(some ⟨gk,0,none⟩:Option Addr)=some ad /\ ∀ j z,((J2r m T).flatMap fun b=>[Value.bool b])[j]?=some z -> wd.cell? (ad.add j)=some z:=fun h0=>by
             refine ⟨_,rfl,fun j z hj=>?_⟩;rw [J3d,List.getElem?_map] at hj;obtain ⟨y,hy,rfl⟩:=Option.map_eq_some_iff.1 hj;obtain ⟨hjl,rfl⟩:=List.getElem?_eq_some_iff.1 hy;obtain ⟨b',o',he',-,hc'⟩:=hcu j hjl;injection hUc with hU1;rw [<- hU1] at he';cases he';have:=hbx.cell hc';rw [addr_add,this];simp [bx,hjl]
            refine Q1z (o:=⟨some 201,_,_,_,_,_⟩) rfl ?_;refine Q9q (.tmp 199) (.tmp 200) 82 rfl z6.heap.size 4 i0 (.bool false) 1 1 Tryz.underlying82 hi hz0 hz1 hz2 rfl (by decide) (fun b=>[Value.bool b]) (fun _=>rfl) _ [] (J2r m T) rfl hown (some ⟨gk,0,none⟩) T (by rw [HLL.out]; rfl) hA (fun z hz=>?_) (by rw [HLL.out]; simp; omega) (by decide) hbx.size (fun v' w9 hown' hgrow=>?_)
            . rw [J3d] at hz
              obtain ⟨y,_,rfl⟩:=List.mem_map.1 hz;rfl
            have hxc:Ext z6 w9:=Below.grown hbx hgrow hbx.size (fun j hj=>(hown.lt j hj).1);have hob:Q0q w9 z6.heap.size 4 .bool v' (J2r m T):=by have h:=hown'; unfold Q0z at h; rw [J3d] at h; exact h
            have HV:=hid (hob.bools (by rw [HLL.out]; omega))
            replace HXA:=hid (HXA.out.trans hxc);replace HWD:=hid (HWD.out.ext hxc);replace H2:=hid (H2.out.ext hxc);replace KB:=hid (KB.out.ext hxc);replace KC:=hid (KC.out.ext hxc);replace FC:=hid (FC.out.ext hxc);replace GK:=hid (GK.out.ext hxc);replace HXB:=hid (HXB.out.ext hxc);replace KM:=hid (KM.out.ext hxc);replace FA:=hid (FA.out.ext hxc);replace HXC:=hid (HXC.out.ext hxc);replace FCL:=hid (FCL.out.ext hxc);replace FG:=hid (FG.out.ext hxc);obtain ⟨z7,rfl⟩:∃ Z,Z=w9:=⟨_,rfl⟩;clear hbx hes hown hA hown' hgrow hxc hob hcu hUc;go_wp2_with fail;refine (J7m _ _ _ s k (J2r m T) FG.out HV.out HS.out HE.out HKM.out (by rw [HT.out,J2p])).mono ?_
            rintro e z8 ⟨xf,rfl,hf,hx⟩;have hxx:Ext z7 z8:=hx;replace HXA:=hid (HXA.out.trans hxx);clear FG;replace HWD:=hid (HWD.out.ext hxx);replace H2:=hid (H2.out.ext hxx);replace KB:=hid (KB.out.ext hxx);replace KC:=hid (KC.out.ext hxx);replace FC:=hid (FC.out.ext hxx);replace GK:=hid (GK.out.ext hxx);replace HXB:=hid (HXB.out.ext hxx);replace KM:=hid (KM.out.ext hxx);replace FA:=hid (FA.out.ext hxx);replace HXC:=hid (HXC.out.ext hxx);replace FCL:=hid (FCL.out.ext hxx);have FF:=hid (hf);clear hx hxx;clear hf HV;have d0KB:=KB.out.cell 0;have d1KB:=KB.out.cell 1;have d2KB:=KB.out.cell 2;simp only [Go.Tw.gA,Go.Tw.gB,Go.Tw.gC] at d0KB d1KB d2KB;go_wp2_with fail;refine (J8w _ _ lim _ FF.out).mono ?_;rintro e w9 ⟨rfl,hw9⟩;subst hw9;obtain ⟨kq,hkq⟩:∃ z,(Q2e s k).keeps s.limit (J2r m s.ships.length)=z:=⟨_,rfl⟩;have HKQ:=hid hkq;rw [show J9o lim ((Q2e s k).X3n (J2r m T))=kq by rw [<- hkq,J7r,HLIM.out,HT.out]]
            clear hkq d0KB d1KB d2KB;cases kq with
            | false =>
              have HSN:=hid (J9g (n:=an) HKQ.out);have HSE:Hid (J4p bl T (m + 1)=J4p bl T m):=hid (K1e HA.out HT.out HKQ.out);go_wp2;go_roundw
              all_goals have hwm:wrap64 ((m:Int) + 1)=(m:Int) + 1:=by have:=HMT.out; have:=HB16.out; unfold wrap64; omega
              case rel=>exact ⟨m + 1,by have:=HMT.out; omega,by rw [hwm]; go_num,by rw [HSN.out],by rw [HSE.out],HXC.out⟩
              case measure=>have:=HMT.out; rw [hwm]; simp [intOf]; omega
            | true =>
              have HSN:=hid (J9h (n:=an) HKQ.out);have hle:an <= countB (J2r m T):=by rw [<- HAN.out,<- HT.out]; exact J8b HA.out HKQ.out
              have HEA:Hid (countB (J2r m T)=an -> J2s (J2r m T) bl=false):=hid (fun h=>by rw [<- HT.out] at h ⊢; exact J7z HA.out (J2p _ _) HKQ.out (by rw [h,<- HAN.out]; exact J3p HA.out))
              obtain ⟨cc9,hcc9⟩:∃ z,countB (J2r m T)=z:=⟨_,rfl⟩;rw [hcc9] at hle HEA ⊢;clear hcc9;have hlt:¬ (cc9 < an):=by omega
              have hltd:decide (cc9 < an)=false:=decide_eq_false hlt;go_upto_region 41 with fail
              go_cut [228] (fun x wx=>x=.bool false /\ Ext z8 wx)
              case first =>
               by_cases hceq:cc9=an
               . skip
                 subst hceq;have HER:=hid (HEA.out rfl);clear HEA;go_wp2_with fail;refine (J7w _ _ _ _ _ FCL.out FA.out).mono ?_;rintro e w9 ⟨rfl,hx9⟩;rw [HER.out];have HX9:=hid hx9;clear hx9;go_wp2_with fail;go_meet;exact ⟨rfl,HX9.out⟩
               . skip
                 have hcb:(cc9 == an)=false:=by simp [hceq]
                 have hcd:decide (cc9=an)=false:=decide_eq_false hceq;clear HEA;go_wp2_with fail;go_meet;exact ⟨rfl,Ext.refl _⟩
              case rest =>
               obtain ⟨rfl,hcut⟩:=hcut;replace HXA:=hid (HXA.out.trans hcut);replace HWD:=hid (HWD.out.ext hcut);replace H2:=hid (H2.out.ext hcut);replace KB:=hid (KB.out.ext hcut);replace KC:=hid (KC.out.ext hcut);replace FC:=hid (FC.out.ext hcut);replace GK:=hid (GK.out.ext hcut);replace HXB:=hid (HXB.out.ext hcut);replace KM:=hid (KM.out.ext hcut);replace FA:=hid (FA.out.ext hcut);replace HXC:=hid (HXC.out.ext hcut);replace FCL:=hid (FCL.out.ext hcut);replace FF:=hid (FF.out.ext hcut);obtain ⟨z9,rfl⟩:∃ X,X=wc:=⟨_,rfl⟩;clear hcut hlt hltd hle HEA;go_wp2_with fail;refine (X9d _ _ _ _ _ FCL.out FA.out).mono ?_;rintro e z10 ⟨rfl,hx⟩;have hxx:Ext z9 z10:=hx;replace HXA:=hid (HXA.out.trans hxx);replace HWD:=hid (HWD.out.ext hxx);replace H2:=hid (H2.out.ext hxx);replace KB:=hid (KB.out.ext hxx);replace KC:=hid (KC.out.ext hxx);replace FC:=hid (FC.out.ext hxx);replace GK:=hid (GK.out.ext hxx);replace HXB:=hid (HXB.out.ext hxx);replace KM:=hid (KM.out.ext hxx);replace FA:=hid (FA.out.ext hxx);replace HXC:=hid (HXC.out.ext hxx);replace FCL:=hid (FCL.out.ext hxx);replace FF:=hid (FF.out.ext hxx);clear hx hxx;have HSE:=hid (J7i bl T m);obtain ⟨q,hq⟩:∃ z,decide (J2r m T=bl)=z:=⟨_,rfl⟩;rw [hq] at HSE ⊢;clear hq;obtain ⟨sb,hsb⟩:∃ z,J4p bl T m=z:=⟨_,rfl⟩;rw [hsb] at HSE ⊢;clear hsb;go_upto_if 231 with fail
               go_cut [29] (fun x wx=>x=.bool (sb || q) /\ wx=z10)
               case first =>
                cases q with
                | false=>go_wp2_with fail; go_meet; exact ⟨by rw [Bool.or_false],rfl⟩
                | true=>go_wp2_with fail; go_meet; exact ⟨by rw [Bool.or_true],rfl⟩
               case rest =>
                obtain ⟨rfl,hcut⟩:=hcut;subst hcut;rw [<- HSE.out];have HWM:Hid (wrap64 ((m:Int) + 1)=(m:Int) + 1):=hid (by have:=HMT.out; have:=HB16.out; unfold wrap64; omega)
                go_wp2;go_roundw
                case rel=>exact ⟨m + 1,by have:=HMT.out; omega,by rw [HWM.out]; go_num,by rw [HSN.out],rfl,HXC.out⟩
                case measure=>have:=HMT.out; rw [HWM.out]; simp [intOf]; omega
       . skip
         have hmI:¬ (m:Int) < (T2:Int):=by omega
         have hmT:m=T2:=by omega
         subst hmT;have HSN:Hid (J4c s k m an=an):=hid (by rw [<- HT2.out,<- HT.out]; exact J9n HA.out an)
         have HSE:Hid (J4p bl T m=true):=hid (by rw [<- HT2.out,<- HBLN.out]; exact K1h bl)
         rw [HSN.out,HSE.out];cases hH:has (Q3r s (J2k s cN)) k with
         | false =>
           have HHF:=hid hH;clear hH;go_wp2_with fail;refine (J3l _ _ _ _ GK.out).mono ?_;rintro e w9 ⟨rfl,hw9⟩;subst hw9;rw [HHF.out];have HRM:=hid (J9c HHF.out);go_wp2;go_roundw
           all_goals have hwk:wrap64 ((k:Int) + 1)=(k:Int) + 1:=by have:=HKM.out; have:=HVS.out.some.2; unfold wrap64; omega
           case rel=>exact ⟨k + 1,by have:=HKM.out; have:=HM.out; omega,by rw [hwk]; go_num,by rw [HRM.out],HXB.out⟩
           case measure=>have:=HKM.out; have:=HM.out; rw [hwk]; simp [intOf]; omega
         | true =>
           have HHT:=hid hH;clear hH;go_wp2_with fail;refine (J3l _ _ _ _ GK.out).mono ?_;rintro e w9 ⟨rfl,hw9⟩;subst hw9;rw [HHT.out];have HWK:Hid (wrap64 ((k:Int) + 1)=(k:Int) + 1):=hid (by have:=HKM.out; have:=HVS.out.some.2; unfold wrap64; omega)
           go_upto_if 242 with fail
           first | refine (J3s H2 KB KC FC KM HSEA HS HT HVS HE HT4 HCR HPC HQL HQ8 HKM HWT HAN HHT ?_) | (go_step; (first | refine (J3s H2 KB KC FC KM HSEA HS HT HVS HE HT4 HCR HPC HQL HQ8 HKM HWT HAN HHT ?_) | (go_step; (first | refine (J3s H2 KB KC FC KM HSEA HS HT HVS HE HT4 HCR HPC HQL HQ8 HKM HWT HAN HHT ?_) | (go_step; (first | refine (J3s H2 KB KC FC KM HSEA HS HT HVS HE HT4 HCR HPC HQL HQ8 HKM HWT HAN HHT ?_) | (go_step; (first | refine (J3s H2 KB KC FC KM HSEA HS HT HVS HE HT4 HCR HPC HQL HQ8 HKM HWT HAN HHT ?_) | (go_step; (first | refine (J3s H2 KB KC FC KM HSEA HS HT HVS HE HT4 HCR HPC HQL HQ8 HKM HWT HAN HHT ?_) | (go_step; (refine (J3s H2 KB KC FC KM HSEA HS HT HVS HE HT4 HCR HPC HQL HQ8 HKM HWT HAN HHT ?_)))))))))))))
           refine hid ?_
           intros
           rename_i w9 hx9
           go_wp2;go_roundw
           case rel=>exact ⟨k + 1,by have:=HKM.out; have:=HM.out; omega,by rw [HWK.out]; go_num,rfl,Ext.trans HXB.out hx9⟩
           case measure=>have:=HKM.out; have:=HM.out; rw [HWK.out]; simp [intOf]; omega
  . skip
    have hkI:¬ (k:Int) < (M:Int):=by omega
    have hkM:k=M:=by omega
    subst hkM;have HSUM:Hid (J2u s (J2k s cN) k=rg):=hid (by rw [<- HRG.out,<- HM.out]; exact J6t s _)
    rw [HSUM.out];have hge:0 <= rg:=by rw [<- HRG.out]; exact J7b HVS.out
    have hged:decide (0 <= rg)=true:=decide_eq_true hge;go_wp2_with fail;refine (J0d _ HWD.out).mono ?_;rintro e z2 ⟨rfl,hx⟩;have hxx:Ext z1 z2:=hx;replace HXA:=hid (HXA.out.trans hxx);replace HWD:=hid (HWD.out.ext hxx);replace H2:=hid (H2.out.ext hxx);replace KB:=hid (KB.out.ext hxx);replace KC:=hid (KC.out.ext hxx);replace FC:=hid (FC.out.ext hxx);replace GK:=hid (GK.out.ext hxx);replace HXB:=hid (HXB.out.ext hxx);clear hx hxx;go_wp2;go_ret;exact ⟨rfl,HXA.out⟩
end Go.Proofs
