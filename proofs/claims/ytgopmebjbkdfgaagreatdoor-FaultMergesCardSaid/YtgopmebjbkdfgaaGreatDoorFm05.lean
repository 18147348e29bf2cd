/- How many bits a number has, as math/bits reckons it: no program is in sight here. Contract of bits.OnesCount. What a tree without an error is like. The nodes of a tree as sets of bits, and what they come to: no program is in sight here. The contract of the reference's States and Fails. Contracts: which nodes fail; cut sets and path sets as bits. -/
import Derived.Test.YtgopmebjbkdfgaaGreatDoorFm04
import Derived.Test.YtgopmebjbkdfgaaGreatDoorFm01
import Derived.Test.YtgopmebjbkdfgaaGreatDoorFm03
set_option maxRecDepth 1000000
set_option maxHeartbeats 64000000
set_option linter.unusedVariables false
set_option linter.unusedSimpArgs false
set_option linter.constructorNameAsVariable false
namespace Go.Tw
theorem X0g (A B:Nat):A &&& B = (A % 256 &&& B % 256) + 256 * (A / 256 &&& B / 256):=by
 have h:=Nat.div_add_mod (A &&& B) 256;rw [show (256:Nat) = 2 ^ 8 from rfl,Nat.and_mod_two_pow,Nat.and_div_two_pow] at h
 rw [show (256:Nat) = 2 ^ 8 from rfl]
 omega
def Q1p:List Nat -> Nat
 | []=>0
 | y :: l=>y + 256 * Q1p l
def Y0p (m:Nat):Nat -> Nat
 | 0=>0
 | k + 1=>m + 256 * Y0p m k
def f1 (y:Nat):Nat:=(y / 2 &&& 85) + (y &&& 85)
def f2 (y:Nat):Nat:=(y / 4 &&& 51) + (y &&& 51)
def f3 (y:Nat):Nat:=(y / 16 + y) &&& 15
theorem X4k (A m:Nat):A &&& m <= m:=Nat.and_le_right
theorem step1:∀ l:List Nat,(∀ y ∈ l,y < 256) -> (Q1p l / 2 &&& Y0p 85 l.length) + (Q1p l &&& Y0p 85 l.length) = Q1p (l.map f1)
 | [],_=>rfl
 | y :: l,h=>by
   have hy:=h y (List.mem_cons_self ..);have ih:=step1 l (fun z hz=>h z (List.mem_cons_of_mem _ hz));rw [List.length_cons,Y0p,Q1p,List.map_cons,Q1p,<- ih];rw [X0g ((y + 256 * Q1p l) / 2),X0g (y + 256 * Q1p l)];rw [show (y + 256 * Q1p l) / 2 % 256 = y / 2 + 128 * (Q1p l % 2) from by omega,show (y + 256 * Q1p l) / 2 / 256 = Q1p l / 2 from by omega,show (85 + 256 * Y0p 85 l.length) % 256 = 85 from by omega,show (85 + 256 * Y0p 85 l.length) / 256 = Y0p 85 l.length from by omega,show (y + 256 * Q1p l) % 256 = y from by omega,show (y + 256 * Q1p l) / 256 = Q1p l from by omega]
   have e:∀ y,y < 256 -> ∀ c,c < 2 -> (y / 2 + 128 * c) &&& 85 = y / 2 &&& 85:=by decide +kernel
   rw [e y hy _ (by omega),f1]
   omega
theorem step2:∀ l:List Nat,(∀ y ∈ l,y < 256) -> (Q1p l / 4 &&& Y0p 51 l.length) + (Q1p l &&& Y0p 51 l.length) = Q1p (l.map f2)
 | [],_=>rfl
 | y :: l,h=>by
   have hy:=h y (List.mem_cons_self ..);have ih:=step2 l (fun z hz=>h z (List.mem_cons_of_mem _ hz));rw [List.length_cons,Y0p,Q1p,List.map_cons,Q1p,<- ih];rw [X0g ((y + 256 * Q1p l) / 4),X0g (y + 256 * Q1p l)];rw [show (y + 256 * Q1p l) / 4 % 256 = y / 4 + 64 * (Q1p l % 4) from by omega,show (y + 256 * Q1p l) / 4 / 256 = Q1p l / 4 from by omega,show (51 + 256 * Y0p 51 l.length) % 256 = 51 from by omega,show (51 + 256 * Y0p 51 l.length) / 256 = Y0p 51 l.length from by omega,show (y + 256 * Q1p l) % 256 = y from by omega,show (y + 256 * Q1p l) / 256 = Q1p l from by omega]
   have e:∀ y,y < 256 -> ∀ c,c < 4 -> (y / 4 + 64 * c) &&& 51 = y / 4 &&& 51:=by decide +kernel
   rw [e y hy _ (by omega),f2]
   omega
theorem Z7c:∀ l:List Nat,(∀ y ∈ l,y % 16 <= 4) -> Q1p l % 16 <= 4
 | [],_=>by simp [Q1p]
 | y :: l,h=>by
   have:=h y (List.mem_cons_self ..);rw [Q1p]; omega
theorem step3:∀ l:List Nat,(∀ y ∈ l,y % 16 <= 4 /\ y / 16 <= 4) -> (Q1p l / 16 + Q1p l) &&& Y0p 15 l.length = Q1p (l.map f3)
 | [],_=>rfl
 | y :: l,h=>by
   have hy:=h y (List.mem_cons_self ..);have ih:=step3 l (fun z hz=>h z (List.mem_cons_of_mem _ hz));have hn:=Z7c l (fun z hz=>(h z (List.mem_cons_of_mem _ hz)).1);rw [List.length_cons,Y0p,Q1p,List.map_cons,Q1p,<- ih];rw [X0g ((y + 256 * Q1p l) / 16 + (y + 256 * Q1p l))];rw [show ((y + 256 * Q1p l) / 16 + (y + 256 * Q1p l)) % 256 = y / 16 + y + 16 * (Q1p l % 16) from by omega,show ((y + 256 * Q1p l) / 16 + (y + 256 * Q1p l)) / 256 = Q1p l / 16 + Q1p l from by omega,show (15 + 256 * Y0p 15 l.length) % 256 = 15 from by omega,show (15 + 256 * Y0p 15 l.length) / 256 = Y0p 15 l.length from by omega]
   have e:∀ y,y < 69 -> ∀ c,c < 5 -> (y / 16 + y + 16 * c) &&& 15 = (y / 16 + y) &&& 15:=by decide +kernel
   rw [e y (by omega) _ (by omega),f3]
def X1f (n k:Nat):Nat:=(List.range k).countP fun i=>n.testBit i
theorem Y9s (n k:Nat):X1f n (8 + k) = X1f (n % 256) 8 + X1f (n / 256) k:=by
 unfold X1f;rw [List.range_add,List.countP_append,List.countP_map]
 congr 1
 . refine List.countP_congr fun i hi=>?_
   rw [show (256:Nat) = 2 ^ 8 from rfl,Nat.testBit_mod_two_pow,decide_eq_true (List.mem_range.1 hi),Bool.true_and]
 . refine List.countP_congr fun i _=>?_
   rw [show (256:Nat) = 2 ^ 8 from rfl,Nat.testBit_div_two_pow]
   show n.testBit (8 + i) = true ↔ _;rw [Nat.add_comm]
theorem X5f:∀ y,y < 256 -> f3 (f2 (f1 y)) = X1f y 8 /\ f1 y < 256 /\ f2 (f1 y) % 16 <= 4 /\ f2 (f1 y) / 16 <= 4 /\ X1f y 8 <= 8:=by decide +kernel
def byteAt (n j:Nat):Nat:=n / 256 ^ j % 256
theorem Z5i {n:Nat} (h:n < 2 ^ 64):Q1p [byteAt n 0,byteAt n 1,byteAt n 2,byteAt n 3,byteAt n 4,byteAt n 5,byteAt n 6,byteAt n 7] = n:=by
 simp only [Q1p,byteAt];omega
theorem Z9a (n:Nat):X1f n 64 = X1f (byteAt n 0) 8 + X1f (byteAt n 1) 8 + X1f (byteAt n 2) 8 + X1f (byteAt n 3) 8 + X1f (byteAt n 4) 8 + X1f (byteAt n 5) 8 + X1f (byteAt n 6) 8 + X1f (byteAt n 7) 8:=by
 rw [show (64:Nat) = 8 + (8 + (8 + (8 + (8 + (8 + (8 + (8 + 0))))))) from rfl]
 simp only [Y9s];have e:X1f (n / 256 / 256 / 256 / 256 / 256 / 256 / 256 / 256) 0 = 0:=rfl;rw [e];simp only [byteAt,Nat.div_div_eq_div_mul];simp only [Nat.reducePow,Nat.reduceMul,Nat.div_one];omega
def Y0a (x:Nat):Nat:=(x / 2 &&& 6148914691236517205) + (x &&& 6148914691236517205)
def Y0u (x:Nat):Nat:=(x / 4 &&& 3689348814741910323) + (x &&& 3689348814741910323)
def Z2e (x:Nat):Nat:=(x / 16 + x) &&& 1085102592571150095
theorem Y8f {n:Nat} (h:n < 2 ^ 64):∃ c0 c1 c2 c3 c4 c5 c6 c7:Nat,Z2e (Y0u (Y0a n)) = Q1p [c0,c1,c2,c3,c4,c5,c6,c7] /\ c0 <= 8 /\ c1 <= 8 /\ c2 <= 8 /\ c3 <= 8 /\ c4 <= 8 /\ c5 <= 8 /\ c6 <= 8 /\ c7 <= 8 /\ X1f n 64 = c0 + c1 + c2 + c3 + c4 + c5 + c6 + c7:=by
 obtain ⟨l,hl⟩:∃ l,[byteAt n 0,byteAt n 1,byteAt n 2,byteAt n 3,byteAt n 4,byteAt n 5,byteAt n 6,byteAt n 7] = l:=⟨_,rfl⟩;have hb:∀ y ∈ l,y < 256:=by
  subst hl;intro y hy;simp only [List.mem_cons,List.not_mem_nil,or_false] at hy
  rcases hy with rfl | rfl | rfl | rfl | rfl | rfl | rfl | rfl <;> exact Nat.mod_lt _ (by decide)
 have hlen:l.length = 8:=by subst hl; rfl
 have e1:Y0a n = Q1p (l.map f1):=by
  rw [<- step1 l hb,hlen,<- Z5i h,hl]; rfl
 have hb1:∀ y ∈ l.map f1,y < 256:=fun y hy=>by obtain ⟨z,hz,rfl⟩:=List.mem_map.1 hy; exact (X5f z (hb z hz)).2.1
 have e2:Y0u (Y0a n) = Q1p ((l.map f1).map f2):=by
  rw [e1,<- step2 _ hb1,List.length_map,hlen]; rfl
 have hb2:∀ y ∈ (l.map f1).map f2,y % 16 <= 4 /\ y / 16 <= 4:=fun y hy=>by
  obtain ⟨u,hu,rfl⟩:=List.mem_map.1 hy;obtain ⟨z,hz,rfl⟩:=List.mem_map.1 hu;exact ⟨(X5f z (hb z hz)).2.2.1,(X5f z (hb z hz)).2.2.2.1⟩
 have e3:Z2e (Y0u (Y0a n)) = Q1p (((l.map f1).map f2).map f3):=by
  rw [e2,<- step3 _ hb2,List.length_map,List.length_map,hlen]; rfl
 have hp:=fun j=>X5f (byteAt n j) (Nat.mod_lt _ (by decide))
 refine ⟨X1f (byteAt n 0) 8,X1f (byteAt n 1) 8,X1f (byteAt n 2) 8,X1f (byteAt n 3) 8,X1f (byteAt n 4) 8,X1f (byteAt n 5) 8,X1f (byteAt n 6) 8,X1f (byteAt n 7) 8,?_,
  (hp 0).2.2.2.2,(hp 1).2.2.2.2,(hp 2).2.2.2.2,(hp 3).2.2.2.2,(hp 4).2.2.2.2,(hp 5).2.2.2.2,(hp 6).2.2.2.2,(hp 7).2.2.2.2,Z9a n⟩
 rw [e3,<- hl];simp only [List.map_cons,List.map_nil,(hp _).1]
theorem Y9o {x r q m:Nat} (hm:0 < m) (h:x = r + m * q) (hr:r < m):x / m = q:=by
 rw [h,Nat.add_mul_div_left _ _ hm,Nat.div_eq_of_lt hr,Nat.zero_add]
theorem Z9y {x r q m:Nat} (h:x = r + m * q) (hr:r < m):x % m = r:=by
 rw [h,Nat.add_mul_mod_self_left,Nat.mod_eq_of_lt hr]
theorem Z3s {c0 c1 c2 c3 c4 c5 c6 c7 x a b c:Nat} (hx:x = Q1p [c0,c1,c2,c3,c4,c5,c6,c7]) (h0:c0 <= 8) (h1:c1 <= 8) (h2:c2 <= 8) (h3:c3 <= 8) (h4:c4 <= 8) (h5:c5 <= 8) (h6:c6 <= 8) (h7:c7 <= 8)
    (ea:x + x / 256 = a) (eb:a + a / 65536 = b) (ec:b + b / 4294967296 = c) :
    x <= 600000000000000000 /\ a <= 605000000000000000 /\ b <= 606000000000000000 /\ c <= 607000000000000000 /\ c % 128 = c0 + c1 + c2 + c3 + c4 + c5 + c6 + c7:=by
 simp only [Q1p] at hx;have hx':x = c0 + 256 * (c1 + 256 * c2 + 65536 * c3 + 16777216 * c4 + 4294967296 * c5 + 1099511627776 * c6 + 281474976710656 * c7):=by clear ea eb ec; rw [hx]; omega
 clear hx;rw [Y9o (by decide) hx' (by clear hx' ea eb ec; omega)] at ea
 have ha:a = ((c0 + c1) + 256 * (c1 + c2)) + 65536 * ((c2 + c3) + 256 * (c3 + c4) + 65536 * (c4 + c5) + 16777216 * (c5 + c6) + 4294967296 * (c6 + c7) + 1099511627776 * c7):=by rw [<- ea,hx']; clear hx' ea eb ec; omega
 clear ea;rw [Y9o (by decide) ha (by clear ha hx' eb ec; omega)] at eb
 have hb:b = ((c0 + c1 + c2 + c3) + 256 * (c1 + c2 + c3 + c4) + 65536 * (c2 + c3 + c4 + c5) + 16777216 * (c3 + c4 + c5 + c6)) + 4294967296 * ((c4 + c5 + c6 + c7) + 256 * (c5 + c6 + c7) + 65536 * (c6 + c7) + 16777216 * c7):=by rw [<- eb,ha]; clear ha hx' eb ec; omega
 clear eb;rw [Y9o (by decide) hb (by clear hb ha hx' ec; omega)] at ec
 have hc:c = (c0 + c1 + c2 + c3 + c4 + c5 + c6 + c7) + 128 * (2 * ((c1 + c2 + c3 + c4 + c5 + c6 + c7) + 256 * (c2 + c3 + c4 + c5 + c6 + c7) + 65536 * (c3 + c4 + c5 + c6 + c7) + 16777216 * (c4 + c5 + c6 + c7) + 4294967296 * (c5 + c6 + c7) + 1099511627776 * (c6 + c7) + 281474976710656 * c7)):=by rw [<- ec,hb]; clear hb ha hx' ec; omega
 clear ec;refine ⟨by rw [hx']; clear hx' ha hb hc; omega,by rw [ha]; clear hx' ha hb hc; omega,by rw [hb]; clear hx' ha hb hc; omega,by rw [hc]; clear hx' ha hb hc; omega,Z9y hc (by clear hx' ha hb hc; omega)⟩
theorem Y8s {n x a b c:Nat} (h:n < 2 ^ 64) (ex:Z2e (Y0u (Y0a n)) = x) (ea:x + x / 256 = a) (eb:a + a / 65536 = b) (ec:b + b / 4294967296 = c) :
    x <= 600000000000000000 /\ a <= 605000000000000000 /\ b <= 606000000000000000 /\ c <= 607000000000000000 /\ c % 128 = X1f n 64:=by
 obtain ⟨c0,c1,c2,c3,c4,c5,c6,c7,hx,h0,h1,h2,h3,h4,h5,h6,h7,hp⟩:=Y8f h;rw [ex] at hx;rw [hp];exact Z3s hx h0 h1 h2 h3 h4 h5 h6 h7 ea eb ec
end Go.Tw
namespace Go.Proofs
open Go.RowKit Go.Tw Go.Flow
theorem Z9w (n:Int) (h0:0 <= n) (h1:n < 2 ^ 64):IntKind.u64.wrap n = n:=by
 simp [IntKind.wrap,IntKind.bits,IntKind.signed]; omega
theorem X5p {n:Nat} (h:n < 18446744073709551616):IntKind.u64.wrap (n:Int) = (n:Int):=Z9w _ (by omega) (by omega)
theorem Z8w {a b:Nat} (ha:a < 2 ^ 64) (hb:b < 2 ^ 64):bits .and .u64 (a:Int) (b:Int) = ((a &&& b:Nat):Int):=(bits_nat .u64 64 (by decide) Z9w a b ha hb).1
theorem u1 {n:Nat} (h:n < 2 ^ 64):IntKind.u64.wrap (bits .and .u64 ((n:Int) / 2) 6148914691236517205 + bits .and .u64 (n:Int) 6148914691236517205) = (Y0a n:Int):=by
 have e1:bits .and .u64 ((n:Int) / 2) 6148914691236517205 = ((n / 2 &&& 6148914691236517205:Nat):Int):=Z8w (a:=n / 2) (b:=6148914691236517205) (by omega) (by decide)
 have e2:bits .and .u64 (n:Int) 6148914691236517205 = ((n &&& 6148914691236517205:Nat):Int):=Z8w (a:=n) (b:=6148914691236517205) h (by decide)
 have b1:=X4k (n / 2) 6148914691236517205;have b2:=X4k n 6148914691236517205;rw [e1,e2,<- Int.natCast_add];exact X5p (by omega)
theorem u2 {n:Nat} (h:n < 2 ^ 64):IntKind.u64.wrap (bits .and .u64 ((n:Int) / 4) 3689348814741910323 + bits .and .u64 (n:Int) 3689348814741910323) = (Y0u n:Int):=by
 have e1:bits .and .u64 ((n:Int) / 4) 3689348814741910323 = ((n / 4 &&& 3689348814741910323:Nat):Int):=Z8w (a:=n / 4) (b:=3689348814741910323) (by omega) (by decide)
 have e2:bits .and .u64 (n:Int) 3689348814741910323 = ((n &&& 3689348814741910323:Nat):Int):=Z8w (a:=n) (b:=3689348814741910323) h (by decide)
 have b1:=X4k (n / 4) 3689348814741910323;have b2:=X4k n 3689348814741910323;rw [e1,e2,<- Int.natCast_add];exact X5p (by omega)
theorem Z5w (n:Nat):Y0a n < 2 ^ 64:=by
 have b1:=X4k (n / 2) 6148914691236517205;have b2:=X4k n 6148914691236517205;unfold Y0a; omega
theorem Z3z (n:Nat):Y0u n <= 7378697629483820646:=by
 have b1:=X4k (n / 4) 3689348814741910323;have b2:=X4k n 3689348814741910323;unfold Y0u; omega
theorem u3 {n:Nat} (h:n <= 7378697629483820646):bits .and .u64 (IntKind.u64.wrap ((n:Int) / 16 + (n:Int))) 1085102592571150095 = (Z2e n:Int):=by
 have e1:IntKind.u64.wrap ((n:Int) / 16 + (n:Int)) = ((n / 16 + n:Nat):Int):=X5p (n:=n / 16 + n) (by omega)
 rw [e1];exact Z8w (a:=n / 16 + n) (b:=1085102592571150095) (by omega) (by decide)
theorem u4 {n:Nat} (h:n < 2 ^ 63):IntKind.u64.wrap ((n:Int) + (n:Int) / 256) = ((n + n / 256:Nat):Int):=X5p (n:=n + n / 256) (by omega)
theorem u5 {n:Nat} (h:n < 2 ^ 63):IntKind.u64.wrap ((n:Int) + (n:Int) / 65536) = ((n + n / 65536:Nat):Int):=X5p (n:=n + n / 65536) (by omega)
theorem u6 {n:Nat} (h:n < 2 ^ 63):IntKind.u64.wrap ((n:Int) + (n:Int) / 4294967296) = ((n + n / 4294967296:Nat):Int):=X5p (n:=n + n / 4294967296) (by omega)
theorem u7 {n:Nat} (h:n < 2 ^ 62):bits .and .i64 (wrap64 (n:Int)) 127 = ((n % 128:Nat):Int):=by
 have e:wrap64 (n:Int) = (n:Int):=by unfold wrap64; omega
 have e2:bits .and .i64 (n:Int) 127 = ((n &&& 127:Nat):Int):=Z4u (a:=n) (b:=127) h (by decide)
 rw [e,e2,show (127:Nat) = 2 ^ 7 - 1 from rfl,Nat.and_two_pow_sub_one_eq_mod]
theorem Y7n (w:World) (n:Nat) (hn:n < 2 ^ 64) :
    Calls Tryz.prog 155 #[.int .u64 n] w fun e w'=>e = .returned (.int .i64 (X1f n 64:Nat)) /\ w = w':=by
 have HN:=Lib.hid hn;clear hn;go_enter Tryz.func155,Tryz.ntmps155;go_wp2;go_ret;refine ⟨Q0z ?_,rfl⟩;obtain ⟨x,hx⟩:∃ x,Z2e (Y0u (Y0a n)) = x:=⟨_,rfl⟩;obtain ⟨a,ha⟩:∃ a,x + x / 256 = a:=⟨_,rfl⟩;obtain ⟨b,hb⟩:∃ b,a + a / 65536 = b:=⟨_,rfl⟩;obtain ⟨c,hc⟩:∃ c,b + b / 4294967296 = c:=⟨_,rfl⟩;obtain ⟨bx,ba,bb,bc,e⟩:=Y8s HN.out hx ha hb hc;rw [u1 HN.out,u2 (Z5w n),u3 (Z3z _),hx,u4 (by omega),ha,u5 (by omega),hb,u6 (by omega),hc,<- e]
 exact u7 (by omega)
theorem Z5z (w:World) (n:Nat) (hn:n < 2 ^ 64) :
    Calls Tryz.prog 136 #[.int .u64 n] w fun e w'=>e = .returned (.int .i64 (X1f n 64:Nat)) /\ w = w':=by
 have HN:=Lib.hid hn;clear hn;go_enter Tryz.func136,Tryz.ntmps136;go_wp2_with (go_at_call 155; refine (Y7n _ _ HN.out).mono ?_; rintro e w' ⟨rfl,rfl⟩);go_ret;exact ⟨rfl,rfl⟩
end Go.Proofs
namespace Go.Tw
theorem Q1c {l:List Int}:Q0g l = 0 ↔ ∀ x ∈ l,x = 0:=by
 induction l with
 | nil=>simp [Q0g]
 | cons y l ih =>
   unfold Q0g
   by_cases h:y = 0
   . simp [h,ih]
   . simp [h]
structure Fit (t:Tree):Prop where
 nb:t.basics.length <= 1000
 nc:t.causes.length <= 1000
 ng:t.gates.length <= 1000
 inp:∀ k,k < t.gates.length -> ∀ x ∈ Q0i t.gates k,0 <= x /\ x < (t.basics.length:Int) + k
theorem Q2z {l:List Int} {n:Int} (h:Q1s l n = 0):(∀ x ∈ l,0 <= x /\ x < n) /\ X8j l = true:=by
 unfold Q1s at h
 split at h
 . cases h
 . split at h
   . rename_i h1 h2
     refine ⟨fun x hx=>?_,h2⟩;unfold Z3d at h1;rw [Bool.not_eq_true,List.any_eq_false] at h1;have:=h1 x hx;simp only [decide_eq_true_eq] at this;omega
   . cases h
structure Valid (t:Tree):Prop where
 nb:1 <= t.basics.length
 ng:1 <= t.gates.length
 size:t.size <= 12
 ng':t.gates.length <= 32
 event:∀ i,i < t.size -> t.Q1i i = 0
 gate:∀ i,i < t.gates.length -> t.Q2e i = 0
theorem Valid.of {t:Tree} (h:t.err = 0):Valid t:=by
 unfold Tree.err at h
 split at h
 . cases h
 . split at h
   . cases h
   . rename_i h1 h2
     rw [Q1c] at h;refine ⟨by omega,by omega,by omega,by omega,fun i hi=>h _ ?_,fun i hi=>h _ ?_⟩
     . exact List.mem_append_left _ (List.mem_map.2 ⟨i,List.mem_range.2 hi,rfl⟩)
     . exact List.mem_append_right _ (List.mem_map.2 ⟨i,List.mem_range.2 hi,rfl⟩)
theorem Valid.inputs {t:Tree} (h:Valid t) {k:Nat} (hk:k < t.gates.length):Q2y (Q0i t.gates k) ((t.basics.length:Int) + k) = 0:=by
 have:=h.gate k hk;unfold Tree.Q2e Q9i at this;rw [Q1c] at this;exact this _ (by simp)
theorem Q6q {l:List Int} {n:Int} (h:Q2y l n = 0):l ≠ [] /\ Q1s l n = 0:=by
 unfold Q2y at h
 split at h
 . cases h
 . exact ⟨‹_›,h⟩
theorem Valid.fit {t:Tree} (h:Valid t):Fit t:=by
 have:=h.size;unfold Tree.size at this;have:=h.ng';exact ⟨by omega,by omega,by omega,fun k hk=>(Q2z (Q6q (h.inputs hk)).2).1⟩
theorem Valid.chance {t:Tree} (h:Valid t) {i:Nat} (hi:i < t.size):0 <= t.Q1h i /\ t.Q1h i <= 16:=by
 have:=h.event i hi;unfold Tree.Q1i at this;rw [Q1c] at this;have:=this (Q0q (t.Q1h i) 0 16) (by simp)
 unfold Q0q at this
 split at this
 . cases this
 . omega
end Go.Tw
namespace Go.Tw
open Go.RowKit
theorem Z5f {x:Int} {l:List Int} (h:X8j (x :: l) = true):∀ y ∈ l,x < y:=by
 induction l generalizing x with
 | nil=>intro y hy; cases hy
 | cons z l ih =>
   simp only [X8j,Bool.and_eq_true,decide_eq_true_eq] at h;intro y hy
   rcases List.mem_cons.1 hy with rfl | hy
   . exact h.1
   . exact Int.lt_trans h.1 (ih h.2 y hy)
theorem Z5p {x:Int} {l:List Int} (h:X8j (x :: l) = true):X8j l = true:=by
 cases l with
 | nil=>rfl
 | cons z l=>simp only [X8j,Bool.and_eq_true] at h; exact h.2
theorem count_one (a:Nat) (p:Nat -> Bool):∀ k,(List.range k).countP (fun i=>p i && decide (i = a)) = if a < k then (if p a then 1 else 0) else 0
 | 0=>rfl
 | k + 1=>by
   rw [List.range_succ,List.countP_append,count_one a p k,List.countP_singleton]
   by_cases h:a < k
   . have h2:¬ k = a:=by omega
     have h3:a < k + 1:=by omega
     simp [h,h2,h3]
   . by_cases h2:k = a
     . subst h2; simp
     . have h3:¬ a < k + 1:=by omega
       simp [h,h2,h3]
theorem Y4c (l:List Nat) (p q:Nat -> Bool) (h:∀ i ∈ l,¬ (p i = true /\ q i = true)):l.countP (fun i=>p i || q i) = l.countP p + l.countP q:=by
 induction l with
 | nil=>rfl
 | cons x l ih =>
   have h0:=h x (List.mem_cons_self ..);rw [List.countP_cons,List.countP_cons,List.countP_cons,ih (fun i hi=>h i (List.mem_cons_of_mem _ hi))];cases hp:p x <;> cases hq:q x <;> simp_all <;> omega
theorem X2o (k:Nat) (p:Nat -> Bool):∀ l:List Int,X8j l = true -> (∀ x ∈ l,0 <= x /\ x < (k:Int)) -> (List.range k).countP (fun i=>p i && has l i) = l.countP fun x=>p x.toNat
 | [],_,_=>by simp [has]
 | x :: l,ha,hb=>by
   have h0:=hb x (List.mem_cons_self ..);have e:(List.range k).countP (fun i=>p i && has (x :: l) i) = (List.range k).countP (fun i=>(p i && decide (i = x.toNat)) || (p i && has l i)):=by
    refine List.countP_congr fun i _=>?_;rw [X5d];have:(x == (i:Int)) = decide (i = x.toNat):=by
     by_cases h:x = (i:Int)
     . subst h; simp
     . rw [beq_false_of_ne h,decide_eq_false (by omega)]
    rw [this];cases p i <;> simp
   rw [e,Y4c,count_one,if_pos (by omega),X2o k p l (Z5p ha) (fun y hy=>hb y (List.mem_cons_of_mem _ hy)),List.countP_cons]
   . omega
   . rintro i _ ⟨h1,h2⟩
     simp only [Bool.and_eq_true,decide_eq_true_eq] at h1 h2;have:=Z5f ha (i:Int) (X9o.1 h2.2);omega
theorem Y3n {out:List Bool} {l:List Int} (ha:X8j l = true) (hb:∀ x ∈ l,0 <= x /\ x < 64):X1f (Q5a out &&& Q1r l) 64 = failing out l:=by
 unfold X1f failing;rw [<- X2o 64 (fun i=>bx out i) l ha hb];refine List.countP_congr fun i _=>?_;rw [Nat.testBit_and,Q5g,X3l (fun x hx=>(hb x hx).1)]
namespace Tree
def maskAt (t:Tree) (k:Nat):Nat:=if k < t.basics.length then 2 ^ k else Q1r (Q0e t.causes (k - t.basics.length))
def masks (t:Tree):List Int:=(List.range t.size).map fun k=>(t.maskAt k:Int)
def gt (t:Tree) (k:Nat):Nat × Int:=(Q1r (Q0i t.gates k),Q7j (Q2f t.gates k) (Q3e t.gates k) (Q0i t.gates k).length)
def gts (t:Tree):List (Nat × Int):=(List.range t.gates.length).map t.gt
def Y3c (t:Tree) (s:Nat):Nat -> Nat
 | 0=>0
 | k + 1=>if s.testBit k then t.Y3c s k ||| t.maskAt k else t.Y3c s k
end Tree
theorem Q2p (t:Tree):t.masks.length = t.size:=by simp [Tree.masks]
theorem X6d (t:Tree):t.gts.length = t.gates.length:=by simp [Tree.gts]
theorem Z4y {t:Tree} {k:Nat} (h:k < t.size):ix t.masks k = (t.maskAt k:Int):=by
 rw [Q6i (by rw [Q2p]; exact h)]; simp [Tree.masks]
theorem Valid.members {t:Tree} (h:Valid t) {k:Nat} (hk:k < t.causes.length):∀ x ∈ Q0e t.causes k,0 <= x /\ x < (t.basics.length:Int):=by
 have h1:=h.event (t.basics.length + k) (by unfold Tree.size; omega)
 unfold Tree.Q1i at h1;rw [Q1c] at h1;have h2:=h1 (if t.basics.length + k < t.basics.length then 0 else Q2y (Q0e t.causes (t.basics.length + k - t.basics.length)) t.basics.length) (by simp)
 rw [if_neg (by omega),Nat.add_sub_cancel_left] at h2
 exact (Q2z (Q6q h2).2).1
theorem Valid.Y2v {t:Tree} (h:Valid t) {k:Nat} (hk:k < t.size):t.maskAt k < 2 ^ t.basics.length:=by
 unfold Tree.maskAt
 split
 . rename_i h1; exact Nat.pow_lt_pow_right (by omega) h1
 . exact X0h h.nb (fun x hx=>(h.members (by unfold Tree.size at hk; omega) x hx).2)
theorem Valid.Y4k {t:Tree} (h:Valid t) (s:Nat):∀ k,k <= t.size -> t.Y3c s k < 2 ^ t.basics.length
 | 0,_=>Nat.two_pow_pos _
 | k + 1,hk=>by
   have ih:=h.Y4k s k (by omega)
   rw [Tree.Y3c]
   split
   . exact Nat.or_lt_two_pow ih (h.Y2v (by omega))
   . exact ih
theorem Y6c (t:Tree) (s i:Nat):∀ k,(t.Y3c s k).testBit i = (List.range k).any fun j=>s.testBit j && (t.maskAt j).testBit i
 | 0=>by simp [Tree.Y3c]
 | k + 1=>by
   rw [Tree.Y3c,List.range_succ,List.any_append,<- Y6c t s i k];cases h:s.testBit k
   . simp [h]
   . simp [h,Nat.testBit_or]
theorem X6c (a b:Nat) (p:Nat -> Bool):(List.range (a + b)).any p = ((List.range a).any p || (List.range b).any fun j=>p (a + j)):=by
 rw [List.range_add,List.any_append,List.any_map]; rfl
theorem Z7e (n i:Nat) (p:Nat -> Bool):((List.range n).any fun j=>p j && decide (i = j)) = (decide (i < n) && p i):=by
 induction n with
 | zero=>rfl
 | succ n ih =>
   rw [List.range_succ,List.any_append,ih]
   by_cases h:i = n
   . subst h; simp
   . by_cases h2:i < n
     . have h3:i < n + 1:=by omega
       simp [h,h2,h3]
     . have h3:¬ i < n + 1:=by omega
       simp [h,h2,h3]
theorem Valid.Z5x {t:Tree} (h:Valid t) (s:Nat):t.Y3c s t.size = Q5a (t.X3f (evN s)):=by
 apply Nat.eq_of_testBit_eq
 intro i;rw [Q5g]
 rcases Nat.lt_or_ge i t.basics.length with hi | hi
 . have e:bx (t.X3f (evN s)) i = t.Z2a (evN s) i:=by unfold bx Tree.X3f; simp [hi]
   rw [e,Y6c,Tree.size,X6c];unfold Tree.Z2a evN
   congr 1
   . have e2:((List.range t.basics.length).any fun j=>s.testBit j && (t.maskAt j).testBit i) = (List.range t.basics.length).any fun j=>s.testBit j && decide (i = j):=by
      rw [Bool.eq_iff_iff,List.any_eq_true,List.any_eq_true]
      constructor
      . rintro ⟨j,hj,h2⟩
        refine ⟨j,hj,?_⟩;unfold Tree.maskAt at h2
        rwa [if_pos (List.mem_range.1 hj),X5t] at h2
      . rintro ⟨j,hj,h2⟩
        refine ⟨j,hj,?_⟩;unfold Tree.maskAt
        rwa [if_pos (List.mem_range.1 hj),X5t]
     rw [e2,Z7e,decide_eq_true hi,Bool.true_and]
   . rw [Bool.eq_iff_iff,List.any_eq_true,List.any_eq_true]
     have e3:∀ j,j < t.causes.length -> (t.maskAt (t.basics.length + j)).testBit i = has (Q0e t.causes j) i:=by
      intro j hj;unfold Tree.maskAt;rw [if_neg (by omega),Nat.add_sub_cancel_left,X3l (fun x hx=>(h.members hj x hx).1)]
     constructor
     . rintro ⟨j,hj,h2⟩
       exact ⟨j,hj,by rwa [e3 j (List.mem_range.1 hj)] at h2⟩
     . rintro ⟨j,hj,h2⟩
       exact ⟨j,hj,by rwa [e3 j (List.mem_range.1 hj)]⟩
 . rw [Y2m (by simpa [Tree.X3f] using hi)]
   exact Nat.testBit_lt_two_pow (Nat.lt_of_lt_of_le (h.Y4k s _ (Nat.le_refl _)) (Nat.pow_le_pow_right (by omega) hi))
theorem Q7e (t:Tree) (ev:Nat -> Bool):∀ k,(t.Q6t ev k).length = t.basics.length + k
 | 0=>by simp [Tree.Q6t,Tree.X3f]
 | k + 1=>by rw [Tree.Q6t,List.length_append,Q7e t ev k]; simp; omega
theorem Valid.X9i {t:Tree} (h:Valid t) (ev:Nat -> Bool) {k:Nat} (hk:k <= t.gates.length):Q5a (t.Q6t ev k) < 2 ^ 44:=by
 refine Nat.lt_of_lt_of_le (Y5z _) ?_;rw [Q7e];have:=h.size; have:=h.ng';unfold Tree.size at this;exact Nat.pow_le_pow_right (by omega) (by have:=h.size; unfold Tree.size at this; omega)
theorem Valid.X5e {t:Tree} (h:Valid t) {k:Nat} (hk:k < t.gates.length):X8j (Q0i t.gates k) = true /\ (∀ x ∈ Q0i t.gates k,0 <= x /\ x < 44):=by
 have h1:=Q2z (Q6q (h.inputs hk)).2;have:=h.size; have:=h.ng';unfold Tree.size at *;exact ⟨h1.2,fun x hx=>by have:=h1.1 x hx; omega⟩
theorem Valid.step {t:Tree} (h:Valid t) (ev:Nat -> Bool) {k:Nat} (hk:k < t.gates.length) :
    Q5a (t.Q6t ev (k + 1)) = if (t.gt k).2 <= (X1f (Q5a (t.Q6t ev k) &&& (t.gt k).1) 64:Int) then Q5a (t.Q6t ev k) ||| 2 ^ (t.basics.length + k) else Q5a (t.Q6t ev k):=by
 obtain ⟨ha,hb⟩:=h.X5e hk;rw [Tree.Q6t,Y8k,Q7e,Tree.gt,Y3n ha (fun x hx=>by have:=hb x hx; omega)]
 unfold Z8o;simp only [decide_eq_true_eq]
theorem Valid.Z3o {t:Tree} (h:Valid t) {k:Nat} (hk:k < t.gates.length):(t.gt k).1 < 2 ^ 44 :=
 X0h (by omega) (fun x hx=>((h.X5e hk).2 x hx).2)
def chV (c:List Int):Value:=.agg #[.int .i64 (ix c 0),.int .i64 (ix c 1),.int .i64 (ix c 2),.int .i64 (ix c 3),.int .i64 (ix c 4),.int .i64 (ix c 5),.int .i64 (ix c 6),.int .i64 (ix c 7),.int .i64 (ix c 8),.int .i64 (ix c 9),.int .i64 (ix c 10),.int .i64 (ix c 11)]
def RGt (_:World) (c:Nat -> Value) (x:Nat × Int):Prop:=c 0 = .int .i64 (x.1:Nat) /\ c 1 = .int .i64 x.2
theorem RGt.ext (w w':World) (c:Nat -> Value) (x:Nat × Int) (_:Ext w w') (h:RGt w c x):RGt w' c x:=h
def Y9j:World -> Value -> List (Nat × Int) -> Prop:=Go.Tw.Rows 2 RGt
theorem Y9j.ext {w w':World} {v:Value} {l:List (Nat × Int)} (h:Y9j w v l) (hx:Ext w w'):Y9j w' v l:=Rows.ext RGt.ext h hx
def evV (t:Tree) (c:List Int) (fv:Value):Value:=.agg #[.int .i64 t.size,fv,.int .i64 (ix c 0),.int .i64 (ix c 1),.int .i64 (ix c 2),.int .i64 (ix c 3),.int .i64 (ix c 4),.int .i64 (ix c 5),.int .i64 (ix c 6),.int .i64 (ix c 7),.int .i64 (ix c 8),.int .i64 (ix c 9),.int .i64 (ix c 10),.int .i64 (ix c 11)]
def noV (t:Tree) (c:List Int) (fv gv:Value):Value:=.agg #[.int .i64 t.size,fv,.int .i64 (ix c 0),.int .i64 (ix c 1),.int .i64 (ix c 2),.int .i64 (ix c 3),.int .i64 (ix c 4),.int .i64 (ix c 5),.int .i64 (ix c 6),.int .i64 (ix c 7),.int .i64 (ix c 8),.int .i64 (ix c 9),.int .i64 (ix c 10),.int .i64 (ix c 11),.int .i64 t.basics.length,gv]
structure Y3e (w:World) (fv gv:Value) (t:Tree):Prop where
 fails:Q0f w fv t.masks
 gates:Y9j w gv t.gts
theorem Y3e.ext {w w':World} {fv gv:Value} {t:Tree} (h:Y3e w fv gv t) (hx:Ext w w'):Y3e w' fv gv t:=⟨h.fails.ext hx,h.gates.ext hx⟩
theorem Y9j.opened {w:World} {v:Value} {t:Tree} (h:Y9j w v t.gts) :
    ∃ A cap,v = .slice A t.gates.length cap /\ t.gates.length <= 17592186043904 /\ t.gates.length <= cap /\ ∀ k,k < t.gates.length -> ∃ b off,A = some ⟨b,off,none⟩ /\ b < w.heap.size /\
     w.cell? ⟨b,off + k * 2,none⟩ = some (.int .i64 ((t.gt k).1:Nat)) /\ w.cell? ⟨b,off + k * 2 + 1,none⟩ = some (.int .i64 (t.gt k).2):=by
 obtain ⟨c,⟨A,cap,hv,hn,hcap,hc⟩,h2⟩:=h;rw [X6d] at hv hn hcap hc;refine ⟨A,cap,hv,hn,hcap,fun k hk=>?_⟩;obtain ⟨b,off,hA,h0⟩:=hc (k * 2) (by omega)
 obtain ⟨b',off',hA',h1⟩:=hc (k * 2 + 1) (by omega)
 rw [hA] at hA'; cases hA';obtain ⟨e0,e1⟩:=h2 k (by rw [X6d]; exact hk)
 have e:t.gts[k]'(by rw [X6d]; exact hk) = t.gt k:=by simp [Tree.gts]
 rw [e] at e0 e1;simp only [Nat.add_zero] at e0;refine ⟨b,off,hA,World.block_lt_of_cell? w _ h0,?_,?_⟩
 . rw [h0,e0]
 . rw [Nat.add_assoc]; exact h1.trans (congrArg some e1)
end Go.Tw
namespace Go.Proofs
open Go.RowKit Go.Tw Go.Flow
theorem Tryz.info4:(Tryz.prog.info? 4).map (fun i=>(i.zero,i.size,i.bytes)) = some (some (.bool false),1,1):=by kernel_rfl
end Go.Proofs
namespace Go.Proofs
open Go.RowKit Go.Tw Go.Flow
theorem X0x {s:Nat} (hs:s < 2 ^ 62) (i:Nat):(bits .and .i64 ((s:Int) / 2 ^ i) 1 == 1) = s.testBit i:=by
 have h1:(s:Int) / 2 ^ i = ((s / 2 ^ i:Nat):Int):=by simp
 have h2:bits .and .i64 ((s / 2 ^ i:Nat):Int) 1 = ((s / 2 ^ i &&& 1:Nat):Int):=Z4u (a:=s / 2 ^ i) (b:=1) (Nat.lt_of_le_of_lt (Nat.div_le_self _ _) hs) (by decide)
 rw [h1,h2,Nat.and_one_is_mod,J0b];have h3:s / 2 ^ i % 2 = 0 ∨ s / 2 ^ i % 2 = 1:=by omega
 rcases h3 with h | h <;> rw [h] <;> rfl
theorem X5o (w:World) (fv gv:Value) (t:Tree) (c:List Int) (s:Nat) (hv:Valid t) (hs:s < 2 ^ t.size) (hn:Y3e w fv gv t) :
    Calls Tryz.prog 88 #[noV t c fv gv,.int .i64 s] w fun e w'=>e = .returned (.int .i64 (Q5a (t.states (evN s)):Nat)) /\ Ext w w':=by
 obtain ⟨hf,hg⟩:=hn;obtain ⟨A,cap,rfl,hl1,hcap,hc⟩:=hf.opened;obtain ⟨A2,cap2,rfl,hl2,hcap2,hc2⟩:=hg.opened;rw [Q2p] at hl1 hcap hc;have hsz:=hv.size;have hng:=hv.ng';have hnb:=hv.nb;have HV:=Lib.hid hv;have HC:=Lib.hid hc;have HC2:=Lib.hid hc2;have hsb:t.basics.length <= 12:=by unfold Tree.size at hsz; omega
 have hs12:s < 2 ^ 62:=Nat.lt_of_lt_of_le hs (Nat.pow_le_pow_right (by omega) (by omega))
 have HS:=Lib.hid hs12;clear hf hg hc hc2 hv hs hs12;unfold noV;rw [Q2p];go_enter Tryz.func88,Tryz.ntmps88;go_wp2;obtain ⟨W,hW⟩:∃ W,w.alloc (.cells #[.int .i64 t.size,.slice A t.size cap,.int .i64 (ix c 0),.int .i64 (ix c 1),.int .i64 (ix c 2),.int .i64 (ix c 3),.int .i64 (ix c 4),.int .i64 (ix c 5),.int .i64 (ix c 6),.int .i64 (ix c 7),.int .i64 (ix c 8),.int .i64 (ix c 9),.int .i64 (ix c 10),.int .i64 (ix c 11),.int .i64 t.basics.length,.slice A2 t.gates.length cap2] 129) = W:=⟨_,rfl⟩;have hxW:Ext w W:=by rw [<- hW]; exact Ext.box _ _
 have n14:W.cell? ⟨w.heap.size,14,none⟩ = some (.int .i64 t.basics.length):=by rw [<- hW]; exact Q0y _ _ _ 14
 have n15:W.cell? ⟨w.heap.size,15,none⟩ = some (.slice A2 t.gates.length cap2):=by rw [<- hW]; exact Q0y _ _ _ 15
 rw [hW];clear hW
 go_loop [5,14] (fun o i=>∃ (k:Nat),k <= t.size /\ i = .int .i64 k /\ o = .int .i64 (t.Y3c s k:Nat)) (fun _ i=>t.size - (intOf i).toNat)
 case atStart=>exact ⟨0,Nat.zero_le _,rfl,rfl⟩
 case round =>
  obtain ⟨k,hk,rfl,rfl⟩:=hrel
  by_cases hlt:k < t.size
  . obtain ⟨b,off,rfl,hcell⟩:=HC.out k hlt
    rw [Z4y hlt] at hcell;replace hcell:=hxW.cell hcell;have hm:=HV.out.Y2v hlt;have ho:=HV.out.Y4k s k hk;have hp12:(2:Nat) ^ t.basics.length <= 2 ^ 12:=Nat.pow_le_pow_right (by omega) hsb
    have hor:=J0n (a:=t.Y3c s k) (b:=t.maskAt k) (by omega) (by omega)
    have HO:Hid (t.Y3c s (k + 1) = if s.testBit k then t.Y3c s k ||| t.maskAt k else t.Y3c s k):=by exact (rfl:t.Y3c s (k + 1) = _)
    have hb1:=X0x HS.out k;obtain ⟨o,he⟩:∃ o,t.Y3c s k = o:=⟨_,rfl⟩;obtain ⟨m,hme⟩:∃ m,t.maskAt k = m:=⟨_,rfl⟩;rw [he,hme] at hor HO;rw [hme] at hcell;rw [he];clear he hme hm ho hp12;cases hb:s.testBit k with
    | true =>
      rw [hb] at HO hb1;clear hb;go_wp2;go_round
      case rel=>exact ⟨k + 1,by omega,by go_num,by rw [HO.out]; rfl⟩
      case measure=>simp [intOf]; omega
    | false =>
      rw [hb] at HO hb1;clear hb;go_wp2;go_round
      case rel=>exact ⟨k + 1,by omega,by go_num,by rw [HO.out]; rfl⟩
      case measure=>simp [intOf]; omega
  . have e0:t.Y3c s k = Q5a (t.Q6t (evN s) 0):=by rw [show k = t.size from by omega,HV.out.Z5x]; rfl
    rw [e0];clear e0;go_wp2
    go_loopw [5,31] (fun o i wr=>∃ (g:Nat),g <= t.gates.length /\ i = .int .i64 g /\ o = .int .i64 (Q5a (t.Q6t (evN s) g):Nat) /\ Ext W wr) (fun _ i _=>t.gates.length - (intOf i).toNat)
    case atStart=>exact ⟨0,Nat.zero_le _,rfl,rfl,Ext.refl _⟩
    case round =>
     obtain ⟨g,hg,rfl,rfl,hx⟩:=hrel;replace n14:=hx.cell n14;replace n15:=hx.cell n15
     by_cases hlg:g < t.gates.length
     . obtain ⟨b,off,rfl,hbl,g0,g1⟩:=HC2.out g hlg
       replace g0:=hx.cell (hxW.cell g0);replace g1:=hx.cell (hxW.cell g1);have hm:=HV.out.Z3o hlg;have ho:=HV.out.X9i (evN s) hg;have HST:=Lib.hid (HV.out.step (evN s) hlg);have hand:=Z4u (a:=Q5a (t.Q6t (evN s) g)) (b:=(t.gt g).1) (by omega) (by omega)
       have hor:=Z0t (a:=Q5a (t.Q6t (evN s) g)) (n:=t.basics.length + g) (by omega) (by omega)
       obtain ⟨o,he⟩:∃ o,Q5a (t.Q6t (evN s) g) = o:=⟨_,rfl⟩;obtain ⟨m,hme⟩:∃ m,(t.gt g).1 = m:=⟨_,rfl⟩;obtain ⟨q,hq⟩:∃ q,(t.gt g).2 = q:=⟨_,rfl⟩;rw [he,hme,hq] at HST;rw [he,hme] at hand;rw [he] at ho hor;rw [hme] at g0 hm;rw [hq] at g1;rw [he];clear he hme hq hbl;have hlt64:o &&& m < 2 ^ 64:=Nat.lt_of_le_of_lt Nat.and_le_right (by omega)
       obtain ⟨r,hr⟩:∃ r,o &&& m = r:=⟨_,rfl⟩;rw [hr] at HST hand hlt64;clear hr;obtain ⟨p,hp⟩:∃ p,X1f r 64 = p:=⟨_,rfl⟩;rw [hp] at HST;have HON:Hid (∀ w',Calls Tryz.prog 136 #[.int .u64 r] w' fun e w''=>e = .returned (.int .i64 (p:Nat)) /\ w' = w''):=by
        exact (by intro w'; rw [<- hp]; exact Z5z w' r hlt64:∀ w',Calls Tryz.prog 136 #[.int .u64 r] w' fun e w''=>e = .returned (.int .i64 (p:Nat)) /\ w' = w'')
       have hwr:IntKind.u64.wrap (r:Int) = (r:Int):=X5p (by omega)
       clear hp hlt64 hm ho
       go_light
       go_wp2;obtain ⟨W2,hW2⟩:∃ W2,wr.alloc (.cells #[.int .i64 m,.int .i64 q] 174) = W2:=⟨_,rfl⟩;have hx2:Ext wr W2:=by rw [<- hW2]; exact Ext.box _ _
       have k0:W2.cell? ⟨wr.heap.size,0,none⟩ = some (.int .i64 m):=by rw [<- hW2]; exact Q0y _ _ _ 0
       have k1:W2.cell? ⟨wr.heap.size,1,none⟩ = some (.int .i64 q):=by rw [<- hW2]; exact Q0y _ _ _ 1
       rw [hW2];replace n14:=hx2.cell n14;have hxr:=hx.trans hx2;clear hW2;refine Flow.Q8p [.p,.p,.w,.p,.w,.w,.p,.w,.p] [0,1,2,3,4,5,6,7,8] [[],[],[1],[0,2],[3],[4],[],[6],[5,7]]
        [.c 0 (.int .i64 (o:Nat)),.c 1 (.pointer (some ⟨wr.heap.size,0,none⟩)),.c 2 (.int .i64 (m:Nat)),.c 3 (.int .i64 (r:Nat)),.c 4 (.int .u64 (r:Nat)),.c 5 (.int .i64 (p:Nat)),.c 6 (.pointer (some ⟨wr.heap.size,1,none⟩)),.c 7 (.int .i64 q),.c 8 (.bool (decide (q <= (p:Int))))]
        (by kernel_rfl) rfl (by kernel_rfl) ⟨?g0,?g1,?g2,?g3,?g4,?g5,?g6,?g7,?g8,trivial⟩ ?post
       case g0 | g1 | g6=>
        intro v w1 hx;refine ⟨_,fun w=>?_,rfl⟩;go_simp
       case g2 | g4 | g7=>
        intro v w1 hx;(repeat intro (zq:v _ = _));have k0:=hx.cell k0;have k1:=hx.cell k1;intro K hK;go_simp;exact hK _ _ (Ext.refl _) rfl
       case g3 | g8=>
        intro v w1 hx;(repeat intro (zq:v _ = _));refine ⟨_,fun w=>?_,rfl⟩;go_simp
       case g5=>
        intro v w1 hx;(repeat intro (zq:v _ = _));have k0:=hx.cell k0;have k1:=hx.cell k1;intro K hK;go_simp;refine Q0c (HON.out _) ?_;rintro e w2 ⟨rfl,rfl⟩;exact ⟨_,rfl,hK _ _ (Ext.refl _) rfl⟩
       case post =>
        intro v w1 hx;(iterate 9 intro (zq:v _ = _));simp only [Flow.All,Flow.acts,Act.put];go_simp;replace n14:=((Ext.refl W2).drew.trans hx).cell n14
        by_cases hd:q <= (p:Int)
        . rw [if_pos hd] at HST
          rw [decide_eq_true hd];clear hd;go_wp2;go_roundw
          case rel=>exact ⟨g + 1,by omega,by go_num,by rw [HST.out],hxr.trans ((Ext.refl W2).drew.trans hx)⟩
          case measure=>simp [intOf]; omega
        . rw [if_neg hd] at HST
          rw [decide_eq_false hd];clear hd;go_wp2;go_roundw
          case rel=>exact ⟨g + 1,by omega,by go_num,by rw [HST.out],hxr.trans ((Ext.refl W2).drew.trans hx)⟩
          case measure=>simp [intOf]; omega
     . go_wp2
       go_ret;exact ⟨Q0z (by rw [show g = t.gates.length from by omega]; rfl),hxW.trans hx⟩
end Go.Proofs
