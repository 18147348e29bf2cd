/- Contracts: sets as bits; the order of sets. How many bits a number has, as math/bits reckons it: no program is in sight here. Contract of bits.OnesCount. What a tree without an error is like. -/
import Derived.Test.YtmaejccjimkbiaaGreatDoorBc05
import Derived.Test.YtmaejccjimkbiaaGreatDoorBc02
set_option linter.unusedVariables false
set_option linter.unusedSimpArgs false
set_option linter.constructorNameAsVariable false
namespace Go.Proofs
open Go.RowKit Go.Tw Go.Flow
theorem pow64 {n:Nat} (h:n < 62):wrap64 (2 ^ n) = ((2 ^ n:Nat):Int):=by
 have h1:(2:Nat) ^ n < 2 ^ 62:=Nat.pow_lt_pow_right (by omega) h
 have h2:((2 ^ n:Nat):Int) = 2 ^ n:=by simp
 rw [← h2]
 obtain ⟨m,hm⟩:∃ m,2 ^ n = m:=⟨_,rfl⟩
 rw [hm] at h1 ⊢
 unfold wrap64
 omega
theorem or_step {a n:Nat} (ha:a < 2 ^ 62) (h:n < 62):bits .or .i64 (a:Int) (wrap64 (2 ^ n)) = ((a ||| 2 ^ n:Nat):Int):=by
 rw [pow64 h,or64 ha (Nat.pow_lt_pow_right (by omega) h)]
set_option maxHeartbeats 400000 in
theorem mask_any (w:World) (v:Value) (l:List Int) (hv:IsInts w v l) (hb:∀ x ∈ l,0 ≤ x ∧ x < 62) :
    Calls Tryz.prog 73 #[v] w fun e w'=>e = .returned (.int .i64 (maskOf l:Nat)) ∧ w = w':=by
 obtain ⟨A,cap,rfl,hl,hcap,hc⟩:=hv.opened
 have HB:=Lib.hid hb
 clear hv hb
 go_enter Tryz.func73,Tryz.ntmps73
 go_wp2
 go_loop [3,8] (fun o i=>∃ (k a:Nat),k ≤ l.length ∧ i = .int .i64 k ∧ o = .int .i64 a ∧ a < 2 ^ 62 ∧ orBits a (l.drop k) = maskOf l) (fun _ i=>l.length - (intOf i).toNat)
 case atStart=>exact ⟨0,0,Nat.zero_le _,rfl,rfl,by decide,rfl⟩
 case round =>
  obtain ⟨k,a,hk,rfl,rfl,ha,hr⟩:=hrel
  have HR:=Lib.hid hr; clear hr
  by_cases hlt:k < l.length
  · obtain ⟨b,off,rfl,hcell⟩:=hc k hlt
    have hb:=HB.out (ix l k) (by rw [ix_eq hlt]; exact List.getElem_mem hlt)
    obtain ⟨n,hn⟩:∃ n:Nat,ix l k = (n:Int):=⟨(ix l k).toNat,by omega⟩
    have HN:=Lib.hid hn
    rw [hn] at hcell
    have hn2:n < 62:=by omega
    have HA:=Lib.hid ha
    clear hc hb hn ha
    go_wp2
    go_round
    case rel=>exact ⟨k + 1,a ||| 2 ^ n,by omega,by go_num,by rw [or_step HA.out hn2],Nat.or_lt_two_pow HA.out (Nat.pow_lt_pow_right (by omega) hn2),by rw [← HR.out,drop_ix hlt,orBits_cons,HN.out]; rfl⟩
    case measure=>simp [intOf]; omega
  · clear hc
    go_wp2
    go_ret
    exact ⟨ret_int (by rw [← HR.out,List.drop_eq_nil_of_le (by omega)]; rfl),rfl⟩
def cmpI (x y:Int):Int:=if x < y then -1 else if y < x then 1 else 0
def cmpL:List Int → List Int → Int
 | [],[]=>0
 | [],_ :: _=>-1
 | _ :: _,[]=>1
 | x :: l,y :: m=>if x = y then cmpL l m else cmpI x y
def setCmp (a b:List Int):Int:=if a.length = b.length then cmpL a b else (a.length:Int) - b.length
theorem cmpL_step {a b:List Int} {k:Nat} (ha:k < a.length) (hb:k < b.length):cmpL (a.drop k) (b.drop k) = if ix a k = ix b k then cmpL (a.drop (k + 1)) (b.drop (k + 1)) else cmpI (ix a k) (ix b k):=by
 rw [drop_ix ha,drop_ix hb]; rfl
theorem cmpInt_any (w:World) (x y:Int) :
    Calls Tryz.prog 185 #[.int .i64 x,.int .i64 y] w fun e w'=>e = .returned (.int .i64 (cmpI x y)) ∧ w = w':=by
 unfold cmpI
 by_cases h1:x < y
 · rw [if_pos h1]
   go_enter Tryz.func185,Tryz.ntmps185
   go_wp2
   go_ret
   exact ⟨rfl,rfl⟩
 · by_cases h2:y < x
   · rw [if_neg h1,if_pos h2]
     go_enter Tryz.func185,Tryz.ntmps185
     go_wp2
     go_ret
     exact ⟨rfl,rfl⟩
   · rw [if_neg h1,if_neg h2]
     go_enter Tryz.func185,Tryz.ntmps185
     go_wp2
     go_ret
     exact ⟨rfl,rfl⟩
set_option maxHeartbeats 800000 in
theorem Compare_any (w:World) (u v:Value) (a b:List Int) (hu:IsInts w u a) (hv:IsInts w v b) (hab:a.length = b.length) :
    Calls Tryz.prog 164 #[u,v] w fun e w'=>e = .returned (.int .i64 (cmpL a b)) ∧ w = w':=by
 obtain ⟨A,ca,rfl,hla,hcapa,hca⟩:=hu.opened
 obtain ⟨B,cb,rfl,hlb,hcapb,hcb⟩:=hv.opened
 clear hu hv
 obtain ⟨m,hma⟩:∃ m,a.length = m:=⟨_,rfl⟩
 have hmb:b.length = m:=by omega
 rw [hma] at hla hcapa hca ⊢
 rw [hmb] at hlb hcapb hcb ⊢
 have HMA:=Lib.hid hma
 have HMB:=Lib.hid hmb
 clear hab hma hmb
 go_enter Tryz.func164,Tryz.ntmps164
 go_wp2
 go_loop [11] (fun i=>∃ k:Nat,k ≤ m ∧ i = .int .i64 k ∧ cmpL (a.drop k) (b.drop k) = cmpL a b) (fun i=>m - (intOf i).toNat)
 case atStart=>exact ⟨0,Nat.zero_le _,rfl,rfl⟩
 case round =>
  obtain ⟨k,hk,rfl,hr⟩:=hrel
  have HR:=Lib.hid hr; clear hr
  by_cases hlt:k < m
  · skip
    obtain ⟨b1,off1,rfl,hc1⟩:=hca k hlt
    obtain ⟨b2,off2,rfl,hc2⟩:=hcb k hlt
    clear hca hcb
    have HS:=Lib.hid (cmpL_step (a:=a) (b:=b) (k:=k) (by rw [HMA.out]; exact hlt) (by rw [HMB.out]; exact hlt))
    obtain ⟨x,hx⟩:∃ x,ix a k = x:=⟨_,rfl⟩
    obtain ⟨y,hy⟩:∃ y,ix b k = y:=⟨_,rfl⟩
    rw [hx,hy] at HS
    rw [hx] at hc1
    rw [hy] at hc2
    clear hx hy
    by_cases he:x = y
    · have hz:(cmpI x y != 0) = false:=by unfold cmpI; subst he; simp
      have HE:=Lib.hid he; clear he
      go_wp2_with (go_at_call 185; refine (cmpInt_any _ _ _).mono ?_; rintro e w' ⟨rfl,rfl⟩)
      go_round
      case rel=>exact ⟨k + 1,by omega,by go_num,by rw [← HR.out,HS.out,if_pos HE.out]⟩
      case measure=>simp [intOf]; omega
    · have hz:(cmpI x y != 0) = true:=by
       unfold cmpI
       rcases Int.lt_or_gt_of_ne he with h | h
       · rw [if_pos h]; rfl
       · rw [if_neg (by omega),if_pos h]; rfl
      have HE:=Lib.hid he; clear he
      go_wp2_with (go_at_call 185; refine (cmpInt_any _ _ _).mono ?_; rintro e w' ⟨rfl,rfl⟩)
      go_ret
      exact ⟨ret_int (by rw [← HR.out,HS.out,if_neg HE.out]),rfl⟩
  · clear hca hcb
    go_wp2
    go_ret
    exact ⟨ret_int (by rw [← HR.out,List.drop_eq_nil_of_le (by rw [HMA.out]; omega),List.drop_eq_nil_of_le (by rw [HMB.out]; omega)]; rfl),rfl⟩
set_option maxHeartbeats 400000 in
theorem compare_any (w:World) (u v:Value) (a b:List Int) (hu:IsInts w u a) (hv:IsInts w v b) :
    Calls Tryz.prog 130 #[u,v] w fun e w'=>e = .returned (.int .i64 (setCmp a b)) ∧ w = w':=by
 have HU:=Lib.hid hu
 have HV:=Lib.hid hv
 obtain ⟨A,ca,rfl,hla,hcapa,hca⟩:=hu.opened
 obtain ⟨B,cb,rfl,hlb,hcapb,hcb⟩:=hv.opened
 clear hu hv hca hcb
 unfold setCmp
 by_cases hab:a.length = b.length
 · rw [if_pos hab]
   have HAB:=Lib.hid hab
   have hne:(((a.length:Nat):Int) != ((b.length:Nat):Int)) = false:=by simp [hab]
   clear hab
   go_enter Tryz.func130,Tryz.ntmps130
   go_wp2_with (go_at_call 164; refine (Compare_any _ _ _ a b HU.out HV.out HAB.out).mono ?_; rintro e w' ⟨rfl,rfl⟩)
   go_ret
   exact ⟨rfl,rfl⟩
 · rw [if_neg hab]
   have hne:(((a.length:Nat):Int) != ((b.length:Nat):Int)) = true:=by simp; omega
   clear hab
   go_enter Tryz.func130,Tryz.ntmps130
   go_wp2
   go_ret
   exact ⟨rfl,rfl⟩
end Go.Proofs
namespace Go.Tw
theorem and_parts (A B:Nat):A &&& B = (A % 256 &&& B % 256) + 256 * (A / 256 &&& B / 256):=by
 have h:=Nat.div_add_mod (A &&& B) 256
 rw [show (256:Nat) = 2 ^ 8 from rfl,Nat.and_mod_two_pow,Nat.and_div_two_pow] at h
 rw [show (256:Nat) = 2 ^ 8 from rfl]
 omega
def bytesN:List Nat → Nat
 | []=>0
 | y :: l=>y + 256 * bytesN l
def repN (m:Nat):Nat → Nat
 | 0=>0
 | k + 1=>m + 256 * repN m k
def f1 (y:Nat):Nat:=(y / 2 &&& 85) + (y &&& 85)
def f2 (y:Nat):Nat:=(y / 4 &&& 51) + (y &&& 51)
def f3 (y:Nat):Nat:=(y / 16 + y) &&& 15
theorem le_and (A m:Nat):A &&& m ≤ m:=Nat.and_le_right
set_option maxRecDepth 100000 in
theorem step1:∀ l:List Nat,(∀ y ∈ l,y < 256) → (bytesN l / 2 &&& repN 85 l.length) + (bytesN l &&& repN 85 l.length) = bytesN (l.map f1)
 | [],_=>rfl
 | y :: l,h=>by
   have hy:=h y (List.mem_cons_self ..)
   have ih:=step1 l (fun z hz=>h z (List.mem_cons_of_mem _ hz))
   rw [List.length_cons,repN,bytesN,List.map_cons,bytesN,← ih]
   rw [and_parts ((y + 256 * bytesN l) / 2),and_parts (y + 256 * bytesN l)]
   rw [show (y + 256 * bytesN l) / 2 % 256 = y / 2 + 128 * (bytesN l % 2) from by omega,show (y + 256 * bytesN l) / 2 / 256 = bytesN l / 2 from by omega,show (85 + 256 * repN 85 l.length) % 256 = 85 from by omega,show (85 + 256 * repN 85 l.length) / 256 = repN 85 l.length from by omega,show (y + 256 * bytesN l) % 256 = y from by omega,show (y + 256 * bytesN l) / 256 = bytesN l from by omega]
   have e:∀ y,y < 256 → ∀ c,c < 2 → (y / 2 + 128 * c) &&& 85 = y / 2 &&& 85:=by decide +kernel
   rw [e y hy _ (by omega),f1]
   omega
set_option maxRecDepth 100000 in
theorem step2:∀ l:List Nat,(∀ y ∈ l,y < 256) → (bytesN l / 4 &&& repN 51 l.length) + (bytesN l &&& repN 51 l.length) = bytesN (l.map f2)
 | [],_=>rfl
 | y :: l,h=>by
   have hy:=h y (List.mem_cons_self ..)
   have ih:=step2 l (fun z hz=>h z (List.mem_cons_of_mem _ hz))
   rw [List.length_cons,repN,bytesN,List.map_cons,bytesN,← ih]
   rw [and_parts ((y + 256 * bytesN l) / 4),and_parts (y + 256 * bytesN l)]
   rw [show (y + 256 * bytesN l) / 4 % 256 = y / 4 + 64 * (bytesN l % 4) from by omega,show (y + 256 * bytesN l) / 4 / 256 = bytesN l / 4 from by omega,show (51 + 256 * repN 51 l.length) % 256 = 51 from by omega,show (51 + 256 * repN 51 l.length) / 256 = repN 51 l.length from by omega,show (y + 256 * bytesN l) % 256 = y from by omega,show (y + 256 * bytesN l) / 256 = bytesN l from by omega]
   have e:∀ y,y < 256 → ∀ c,c < 4 → (y / 4 + 64 * c) &&& 51 = y / 4 &&& 51:=by decide +kernel
   rw [e y hy _ (by omega),f2]
   omega
theorem low_nib:∀ l:List Nat,(∀ y ∈ l,y % 16 ≤ 4) → bytesN l % 16 ≤ 4
 | [],_=>by simp [bytesN]
 | y :: l,h=>by
   have:=h y (List.mem_cons_self ..)
   rw [bytesN]; omega
theorem step3:∀ l:List Nat,(∀ y ∈ l,y % 16 ≤ 4 ∧ y / 16 ≤ 4) → (bytesN l / 16 + bytesN l) &&& repN 15 l.length = bytesN (l.map f3)
 | [],_=>rfl
 | y :: l,h=>by
   have hy:=h y (List.mem_cons_self ..)
   have ih:=step3 l (fun z hz=>h z (List.mem_cons_of_mem _ hz))
   have hn:=low_nib l (fun z hz=>(h z (List.mem_cons_of_mem _ hz)).1)
   rw [List.length_cons,repN,bytesN,List.map_cons,bytesN,← ih]
   rw [and_parts ((y + 256 * bytesN l) / 16 + (y + 256 * bytesN l))]
   rw [show ((y + 256 * bytesN l) / 16 + (y + 256 * bytesN l)) % 256 = y / 16 + y + 16 * (bytesN l % 16) from by omega,show ((y + 256 * bytesN l) / 16 + (y + 256 * bytesN l)) / 256 = bytesN l / 16 + bytesN l from by omega,show (15 + 256 * repN 15 l.length) % 256 = 15 from by omega,show (15 + 256 * repN 15 l.length) / 256 = repN 15 l.length from by omega]
   have e:∀ y,y < 69 → ∀ c,c < 5 → (y / 16 + y + 16 * c) &&& 15 = (y / 16 + y) &&& 15:=by decide +kernel
   rw [e y (by omega) _ (by omega),f3]
def popN (n k:Nat):Nat:=(List.range k).countP fun i=>n.testBit i
theorem popN_byte (n k:Nat):popN n (8 + k) = popN (n % 256) 8 + popN (n / 256) k:=by
 unfold popN
 rw [List.range_add,List.countP_append,List.countP_map]
 congr 1
 · refine List.countP_congr fun i hi=>?_
   rw [show (256:Nat) = 2 ^ 8 from rfl,Nat.testBit_mod_two_pow,decide_eq_true (List.mem_range.1 hi),Bool.true_and]
 · refine List.countP_congr fun i _=>?_
   rw [show (256:Nat) = 2 ^ 8 from rfl,Nat.testBit_div_two_pow]
   show n.testBit (8 + i) = true ↔ _
   rw [Nat.add_comm]
set_option maxRecDepth 100000 in
theorem pop_byte:∀ y,y < 256 → f3 (f2 (f1 y)) = popN y 8 ∧ f1 y < 256 ∧ f2 (f1 y) % 16 ≤ 4 ∧ f2 (f1 y) / 16 ≤ 4 ∧ popN y 8 ≤ 8:=by decide +kernel
def byteAt (n j:Nat):Nat:=n / 256 ^ j % 256
theorem bytes_of {n:Nat} (h:n < 2 ^ 64):bytesN [byteAt n 0,byteAt n 1,byteAt n 2,byteAt n 3,byteAt n 4,byteAt n 5,byteAt n 6,byteAt n 7] = n:=by
 simp only [bytesN,byteAt]
 omega
theorem pop_of (n:Nat):popN n 64 = popN (byteAt n 0) 8 + popN (byteAt n 1) 8 + popN (byteAt n 2) 8 + popN (byteAt n 3) 8 + popN (byteAt n 4) 8 + popN (byteAt n 5) 8 + popN (byteAt n 6) 8 + popN (byteAt n 7) 8:=by
 rw [show (64:Nat) = 8 + (8 + (8 + (8 + (8 + (8 + (8 + (8 + 0))))))) from rfl]
 simp only [popN_byte]
 have e:popN (n / 256 / 256 / 256 / 256 / 256 / 256 / 256 / 256) 0 = 0:=rfl
 rw [e]
 simp only [byteAt,Nat.div_div_eq_div_mul]
 simp only [Nat.reducePow,Nat.reduceMul,Nat.div_one]
 omega
def onesA (x:Nat):Nat:=(x / 2 &&& 6148914691236517205) + (x &&& 6148914691236517205)
def onesB (x:Nat):Nat:=(x / 4 &&& 3689348814741910323) + (x &&& 3689348814741910323)
def onesC (x:Nat):Nat:=(x / 16 + x) &&& 1085102592571150095
theorem ones_bytes {n:Nat} (h:n < 2 ^ 64):∃ c0 c1 c2 c3 c4 c5 c6 c7:Nat,onesC (onesB (onesA n)) = bytesN [c0,c1,c2,c3,c4,c5,c6,c7] ∧ c0 ≤ 8 ∧ c1 ≤ 8 ∧ c2 ≤ 8 ∧ c3 ≤ 8 ∧ c4 ≤ 8 ∧ c5 ≤ 8 ∧ c6 ≤ 8 ∧ c7 ≤ 8 ∧ popN n 64 = c0 + c1 + c2 + c3 + c4 + c5 + c6 + c7:=by
 obtain ⟨l,hl⟩:∃ l,[byteAt n 0,byteAt n 1,byteAt n 2,byteAt n 3,byteAt n 4,byteAt n 5,byteAt n 6,byteAt n 7] = l:=⟨_,rfl⟩
 have hb:∀ y ∈ l,y < 256:=by
  subst hl
  intro y hy
  simp only [List.mem_cons,List.not_mem_nil,or_false] at hy
  rcases hy with rfl | rfl | rfl | rfl | rfl | rfl | rfl | rfl <;> exact Nat.mod_lt _ (by decide)
 have hlen:l.length = 8:=by subst hl; rfl
 have e1:onesA n = bytesN (l.map f1):=by
  rw [← step1 l hb,hlen,← bytes_of h,hl]; rfl
 have hb1:∀ y ∈ l.map f1,y < 256:=fun y hy=>by obtain ⟨z,hz,rfl⟩:=List.mem_map.1 hy; exact (pop_byte z (hb z hz)).2.1
 have e2:onesB (onesA n) = bytesN ((l.map f1).map f2):=by
  rw [e1,← step2 _ hb1,List.length_map,hlen]; rfl
 have hb2:∀ y ∈ (l.map f1).map f2,y % 16 ≤ 4 ∧ y / 16 ≤ 4:=fun y hy=>by
  obtain ⟨u,hu,rfl⟩:=List.mem_map.1 hy
  obtain ⟨z,hz,rfl⟩:=List.mem_map.1 hu
  exact ⟨(pop_byte z (hb z hz)).2.2.1,(pop_byte z (hb z hz)).2.2.2.1⟩
 have e3:onesC (onesB (onesA n)) = bytesN (((l.map f1).map f2).map f3):=by
  rw [e2,← step3 _ hb2,List.length_map,List.length_map,hlen]; rfl
 have hp:=fun j=>pop_byte (byteAt n j) (Nat.mod_lt _ (by decide))
 refine ⟨popN (byteAt n 0) 8,popN (byteAt n 1) 8,popN (byteAt n 2) 8,popN (byteAt n 3) 8,popN (byteAt n 4) 8,popN (byteAt n 5) 8,popN (byteAt n 6) 8,popN (byteAt n 7) 8,?_,
  (hp 0).2.2.2.2,(hp 1).2.2.2.2,(hp 2).2.2.2.2,(hp 3).2.2.2.2,(hp 4).2.2.2.2,(hp 5).2.2.2.2,(hp 6).2.2.2.2,(hp 7).2.2.2.2,pop_of n⟩
 rw [e3,← hl]
 simp only [List.map_cons,List.map_nil,(hp _).1]
theorem div_of {x r q m:Nat} (hm:0 < m) (h:x = r + m * q) (hr:r < m):x / m = q:=by
 rw [h,Nat.add_mul_div_left _ _ hm,Nat.div_eq_of_lt hr,Nat.zero_add]
theorem mod_of {x r q m:Nat} (h:x = r + m * q) (hr:r < m):x % m = r:=by
 rw [h,Nat.add_mul_mod_self_left,Nat.mod_eq_of_lt hr]
theorem ones_sum {c0 c1 c2 c3 c4 c5 c6 c7 x a b c:Nat} (hx:x = bytesN [c0,c1,c2,c3,c4,c5,c6,c7]) (h0:c0 ≤ 8) (h1:c1 ≤ 8) (h2:c2 ≤ 8) (h3:c3 ≤ 8) (h4:c4 ≤ 8) (h5:c5 ≤ 8) (h6:c6 ≤ 8) (h7:c7 ≤ 8)
    (ea:x + x / 256 = a) (eb:a + a / 65536 = b) (ec:b + b / 4294967296 = c) :
    x ≤ 600000000000000000 ∧ a ≤ 605000000000000000 ∧ b ≤ 606000000000000000 ∧ c ≤ 607000000000000000 ∧ c % 128 = c0 + c1 + c2 + c3 + c4 + c5 + c6 + c7:=by
 simp only [bytesN] at hx
 have hx':x = c0 + 256 * (c1 + 256 * c2 + 65536 * c3 + 16777216 * c4 + 4294967296 * c5 + 1099511627776 * c6 + 281474976710656 * c7):=by clear ea eb ec; rw [hx]; omega
 clear hx
 rw [div_of (by decide) hx' (by clear hx' ea eb ec; omega)] at ea
 have ha:a = ((c0 + c1) + 256 * (c1 + c2)) + 65536 * ((c2 + c3) + 256 * (c3 + c4) + 65536 * (c4 + c5) + 16777216 * (c5 + c6) + 4294967296 * (c6 + c7) + 1099511627776 * c7):=by rw [← ea,hx']; clear hx' ea eb ec; omega
 clear ea
 rw [div_of (by decide) ha (by clear ha hx' eb ec; omega)] at eb
 have hb:b = ((c0 + c1 + c2 + c3) + 256 * (c1 + c2 + c3 + c4) + 65536 * (c2 + c3 + c4 + c5) + 16777216 * (c3 + c4 + c5 + c6)) + 4294967296 * ((c4 + c5 + c6 + c7) + 256 * (c5 + c6 + c7) + 65536 * (c6 + c7) + 16777216 * c7):=by rw [← eb,ha]; clear ha hx' eb ec; omega
 clear eb
 rw [div_of (by decide) hb (by clear hb ha hx' ec; omega)] at ec
 have hc:c = (c0 + c1 + c2 + c3 + c4 + c5 + c6 + c7) + 128 * (2 * ((c1 + c2 + c3 + c4 + c5 + c6 + c7) + 256 * (c2 + c3 + c4 + c5 + c6 + c7) + 65536 * (c3 + c4 + c5 + c6 + c7) + 16777216 * (c4 + c5 + c6 + c7) + 4294967296 * (c5 + c6 + c7) + 1099511627776 * (c6 + c7) + 281474976710656 * c7)):=by rw [← ec,hb]; clear hb ha hx' ec; omega
 clear ec
 refine ⟨by rw [hx']; clear hx' ha hb hc; omega,by rw [ha]; clear hx' ha hb hc; omega,by rw [hb]; clear hx' ha hb hc; omega,by rw [hc]; clear hx' ha hb hc; omega,mod_of hc (by clear hx' ha hb hc; omega)⟩
theorem ones_final {n x a b c:Nat} (h:n < 2 ^ 64) (ex:onesC (onesB (onesA n)) = x) (ea:x + x / 256 = a) (eb:a + a / 65536 = b) (ec:b + b / 4294967296 = c) :
    x ≤ 600000000000000000 ∧ a ≤ 605000000000000000 ∧ b ≤ 606000000000000000 ∧ c ≤ 607000000000000000 ∧ c % 128 = popN n 64:=by
 obtain ⟨c0,c1,c2,c3,c4,c5,c6,c7,hx,h0,h1,h2,h3,h4,h5,h6,h7,hp⟩:=ones_bytes h
 rw [ex] at hx
 rw [hp]
 exact ones_sum hx h0 h1 h2 h3 h4 h5 h6 h7 ea eb ec
end Go.Tw
namespace Go.Proofs
open Go.RowKit Go.Tw Go.Flow
theorem wrapU (n:Int) (h0:0 ≤ n) (h1:n < 2 ^ 64):IntKind.u64.wrap n = n:=by
 simp [IntKind.wrap,IntKind.bits,IntKind.signed]; omega
theorem wrapUN {n:Nat} (h:n < 18446744073709551616):IntKind.u64.wrap (n:Int) = (n:Int):=wrapU _ (by omega) (by omega)
theorem andU {a b:Nat} (ha:a < 2 ^ 64) (hb:b < 2 ^ 64):bits .and .u64 (a:Int) (b:Int) = ((a &&& b:Nat):Int):=(bits_nat .u64 64 (by decide) wrapU a b ha hb).1
theorem u1 {n:Nat} (h:n < 2 ^ 64):IntKind.u64.wrap (bits .and .u64 ((n:Int) / 2) 6148914691236517205 + bits .and .u64 (n:Int) 6148914691236517205) = (onesA n:Int):=by
 have e1:bits .and .u64 ((n:Int) / 2) 6148914691236517205 = ((n / 2 &&& 6148914691236517205:Nat):Int):=andU (a:=n / 2) (b:=6148914691236517205) (by omega) (by decide)
 have e2:bits .and .u64 (n:Int) 6148914691236517205 = ((n &&& 6148914691236517205:Nat):Int):=andU (a:=n) (b:=6148914691236517205) h (by decide)
 have b1:=le_and (n / 2) 6148914691236517205
 have b2:=le_and n 6148914691236517205
 rw [e1,e2,← Int.natCast_add]
 exact wrapUN (by omega)
theorem u2 {n:Nat} (h:n < 2 ^ 64):IntKind.u64.wrap (bits .and .u64 ((n:Int) / 4) 3689348814741910323 + bits .and .u64 (n:Int) 3689348814741910323) = (onesB n:Int):=by
 have e1:bits .and .u64 ((n:Int) / 4) 3689348814741910323 = ((n / 4 &&& 3689348814741910323:Nat):Int):=andU (a:=n / 4) (b:=3689348814741910323) (by omega) (by decide)
 have e2:bits .and .u64 (n:Int) 3689348814741910323 = ((n &&& 3689348814741910323:Nat):Int):=andU (a:=n) (b:=3689348814741910323) h (by decide)
 have b1:=le_and (n / 4) 3689348814741910323
 have b2:=le_and n 3689348814741910323
 rw [e1,e2,← Int.natCast_add]
 exact wrapUN (by omega)
theorem onesA_lt (n:Nat):onesA n < 2 ^ 64:=by
 have b1:=le_and (n / 2) 6148914691236517205
 have b2:=le_and n 6148914691236517205
 unfold onesA; omega
theorem onesB_le (n:Nat):onesB n ≤ 7378697629483820646:=by
 have b1:=le_and (n / 4) 3689348814741910323
 have b2:=le_and n 3689348814741910323
 unfold onesB; omega
theorem u3 {n:Nat} (h:n ≤ 7378697629483820646):bits .and .u64 (IntKind.u64.wrap ((n:Int) / 16 + (n:Int))) 1085102592571150095 = (onesC n:Int):=by
 have e1:IntKind.u64.wrap ((n:Int) / 16 + (n:Int)) = ((n / 16 + n:Nat):Int):=wrapUN (n:=n / 16 + n) (by omega)
 rw [e1]
 exact andU (a:=n / 16 + n) (b:=1085102592571150095) (by omega) (by decide)
theorem u4 {n:Nat} (h:n < 2 ^ 63):IntKind.u64.wrap ((n:Int) + (n:Int) / 256) = ((n + n / 256:Nat):Int):=wrapUN (n:=n + n / 256) (by omega)
theorem u5 {n:Nat} (h:n < 2 ^ 63):IntKind.u64.wrap ((n:Int) + (n:Int) / 65536) = ((n + n / 65536:Nat):Int):=wrapUN (n:=n + n / 65536) (by omega)
theorem u6 {n:Nat} (h:n < 2 ^ 63):IntKind.u64.wrap ((n:Int) + (n:Int) / 4294967296) = ((n + n / 4294967296:Nat):Int):=wrapUN (n:=n + n / 4294967296) (by omega)
theorem u7 {n:Nat} (h:n < 2 ^ 62):bits .and .i64 (wrap64 (n:Int)) 127 = ((n % 128:Nat):Int):=by
 have e:wrap64 (n:Int) = (n:Int):=by unfold wrap64; omega
 have e2:bits .and .i64 (n:Int) 127 = ((n &&& 127:Nat):Int):=and64 (a:=n) (b:=127) h (by decide)
 rw [e,e2,show (127:Nat) = 2 ^ 7 - 1 from rfl,Nat.and_two_pow_sub_one_eq_mod]
set_option maxRecDepth 100000 in
theorem Ones64_any (w:World) (n:Nat) (hn:n < 2 ^ 64) :
    Calls Tryz.prog 172 #[.int .u64 n] w fun e w'=>e = .returned (.int .i64 (popN n 64:Nat)) ∧ w = w':=by
 have HN:=Lib.hid hn
 clear hn
 go_enter Tryz.func172,Tryz.ntmps172
 go_wp2
 go_ret
 refine ⟨ret_int ?_,rfl⟩
 obtain ⟨x,hx⟩:∃ x,onesC (onesB (onesA n)) = x:=⟨_,rfl⟩
 obtain ⟨a,ha⟩:∃ a,x + x / 256 = a:=⟨_,rfl⟩
 obtain ⟨b,hb⟩:∃ b,a + a / 65536 = b:=⟨_,rfl⟩
 obtain ⟨c,hc⟩:∃ c,b + b / 4294967296 = c:=⟨_,rfl⟩
 obtain ⟨bx,ba,bb,bc,e⟩:=ones_final HN.out hx ha hb hc
 rw [u1 HN.out,u2 (onesA_lt n),u3 (onesB_le _),hx,u4 (by omega),ha,u5 (by omega),hb,u6 (by omega),hc,← e]
 exact u7 (by omega)
theorem Ones_any (w:World) (n:Nat) (hn:n < 2 ^ 64) :
    Calls Tryz.prog 157 #[.int .u64 n] w fun e w'=>e = .returned (.int .i64 (popN n 64:Nat)) ∧ w = w':=by
 have HN:=Lib.hid hn
 clear hn
 go_enter Tryz.func157,Tryz.ntmps157
 go_wp2_with (go_at_call 172; refine (Ones64_any _ _ HN.out).mono ?_; rintro e w' ⟨rfl,rfl⟩)
 go_ret
 exact ⟨rfl,rfl⟩
end Go.Proofs
namespace Go.Tw
theorem firstErr_zero {l:List Int}:firstErr l = 0 ↔ ∀ x ∈ l,x = 0:=by
 induction l with
 | nil=>simp [firstErr]
 | cons y l ih =>
   unfold firstErr
   by_cases h:y = 0
   · simp [h,ih]
   · simp [h]
structure Fit (t:Tree):Prop where
 nb:t.basics.length ≤ 1000
 nc:t.causes.length ≤ 1000
 ng:t.gates.length ≤ 1000
 inp:∀ k,k < t.gates.length → ∀ x ∈ gInputs t.gates k,0 ≤ x ∧ x < (t.basics.length:Int) + k
theorem setErr_zero {l:List Int} {n:Int} (h:setErr l n = 0):(∀ x ∈ l,0 ≤ x ∧ x < n) ∧ ascB l = true:=by
 unfold setErr at h
 split at h
 · cases h
 · split at h
   · rename_i h1 h2
     refine ⟨fun x hx=>?_,h2⟩
     unfold outB at h1
     rw [Bool.not_eq_true,List.any_eq_false] at h1
     have:=h1 x hx
     simp only [decide_eq_true_eq] at this
     omega
   · cases h
structure Valid (t:Tree):Prop where
 nb:1 ≤ t.basics.length
 ng:1 ≤ t.gates.length
 size:t.size ≤ 12
 ng':t.gates.length ≤ 32
 event:∀ i,i < t.size → t.eventErr i = 0
 gate:∀ i,i < t.gates.length → t.gateErrAt i = 0
theorem Valid.of {t:Tree} (h:t.err = 0):Valid t:=by
 unfold Tree.err at h
 split at h
 · cases h
 · split at h
   · cases h
   · rename_i h1 h2
     rw [firstErr_zero] at h
     refine ⟨by omega,by omega,by omega,by omega,fun i hi=>h _ ?_,fun i hi=>h _ ?_⟩
     · exact List.mem_append_left _ (List.mem_map.2 ⟨i,List.mem_range.2 hi,rfl⟩)
     · exact List.mem_append_right _ (List.mem_map.2 ⟨i,List.mem_range.2 hi,rfl⟩)
theorem Valid.inputs {t:Tree} (h:Valid t) {k:Nat} (hk:k < t.gates.length):listErr (gInputs t.gates k) ((t.basics.length:Int) + k) = 0:=by
 have:=h.gate k hk
 unfold Tree.gateErrAt gateErr at this
 rw [firstErr_zero] at this
 exact this _ (by simp)
theorem listErr_zero {l:List Int} {n:Int} (h:listErr l n = 0):l ≠ [] ∧ setErr l n = 0:=by
 unfold listErr at h
 split at h
 · cases h
 · exact ⟨‹_›,h⟩
theorem Valid.fit {t:Tree} (h:Valid t):Fit t:=by
 have:=h.size
 unfold Tree.size at this
 have:=h.ng'
 exact ⟨by omega,by omega,by omega,fun k hk=>(setErr_zero (listErr_zero (h.inputs hk)).2).1⟩
theorem Valid.chance {t:Tree} (h:Valid t) {i:Nat} (hi:i < t.size):0 ≤ t.chanceAt i ∧ t.chanceAt i ≤ 16:=by
 have:=h.event i hi
 unfold Tree.eventErr at this
 rw [firstErr_zero] at this
 have:=this (rangeErr (t.chanceAt i) 0 16) (by simp)
 unfold rangeErr at this
 split at this
 · cases this
 · omega
end Go.Tw
