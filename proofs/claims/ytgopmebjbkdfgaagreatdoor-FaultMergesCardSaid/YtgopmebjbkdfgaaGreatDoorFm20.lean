/- Contracts: Bound. Contracts: Next. -/
import Derived.Test.YtgopmebjbkdfgaaGreatDoorFm19
set_option maxRecDepth 1000000
set_option maxHeartbeats 64000000
set_option linter.unusedVariables false
set_option linter.unusedSimpArgs false
set_option linter.constructorNameAsVariable false
namespace Go.Proofs
open Go.RowKit Go.Tw Go.Flow
def Q4q (c s:List Int):Nat -> Int
 | 0=>1
 | m + 1=>Q4q c s m * if has s m then ix c m else 16
def Y1p (c:List Int) (n:Nat):List (List Int) -> Int
 | []=>0
 | s :: l=>Q4q c s n + Y1p c n l
theorem Y1n (c:List Int) (n:Nat) (s:List Int):∀ l,Y1p c n (l ++ [s]) = Y1p c n l + Q4q c s n
 | []=>by simp [Y1p]
 | y :: l=>by rw [List.cons_append,Y1p,Y1p,Y1n c n s l,Int.add_assoc]
theorem Y5x {c:List Int} (h:Small c) (s:List Int):∀ m,m <= c.length -> 0 <= Q4q c s m /\ Q4q c s m <= 16 ^ m
 | 0,_=>by simp [Q4q]
 | m + 1,hm=>by
   obtain ⟨h1,h2⟩:=Y5x h s m (by omega)
   have h3:=h.ix (j:=m) (by omega)
   have hf:0 <= (if has s m then ix c m else 16) /\ (if has s m then ix c m else 16) <= 16:=by split <;> omega
   rw [Q4q];refine ⟨Int.mul_nonneg h1 hf.1,?_⟩;rw [Int.pow_succ];exact Int.mul_le_mul h2 hf.2 hf.1 (Int.pow_nonneg (by omega))
theorem X5b {c:List Int} (h:Small c) (s:List Int) {m:Nat} (hm:m <= c.length):0 <= Q4q c s m /\ Q4q c s m <= 281474976710656:=by
 have h1:=Y5x h s m hm;have h2:(16:Int) ^ m <= 16 ^ 12:=by
  have:=h.len
  exact_mod_cast Nat.pow_le_pow_right (n:=16) (by omega) (show m <= 12 by omega)
 exact ⟨h1.1,Int.le_trans h1.2 (Int.le_trans h2 (by decide))⟩
theorem Y5e {c:List Int} (h:Small c) {n:Nat} (hn:n <= c.length):∀ l:List (List Int),0 <= Y1p c n l /\ Y1p c n l <= l.length * 281474976710656
 | []=>by simp [Y1p]
 | s :: l=>by
   have h1:=X5b h s hn;have h2:=Y5e h hn l;rw [Y1p,List.length_cons];have h3:((l.length + 1:Nat):Int) = (l.length:Int) + 1:=by omega
   rw [h3,Int.add_mul];omega
def Y9w (t:Tree):Int:=Y1p t.Q0b t.size (t.sets false)
def X8b (t:Tree):Ratio:=if t.err = 0 then lowest (Y9w t) (Q8g 16 t.size) else ⟨0,0⟩
theorem Y7k (w:World) (v:Value) (t:Tree) (ht:IsTree w v t) (hT:Tab w) :
    Calls Tryz.prog 39 #[v] w fun e w'=>e = .returned (.tuple #[.agg (encR (X8b t)),.int .i64 t.err]) /\ Ext w w':=by
 obtain ⟨a,b,c,rfl,h3⟩:=ht;obtain ⟨A,capa,rfl,hl1,hcap1,_⟩:=h3.basics.opened;obtain ⟨B,capb,rfl,hl2,hcap2,_⟩:=h3.causes.opened;obtain ⟨G,capg,rfl,hl3,hcap3,_⟩:=h3.gates.opened;have HT0:=Lib.hid h3;clear h3;have HTAB:=Lib.hid hT;clear hT;go_enter Tryz.func39,Tryz.ntmps39;go_wp2_with fail;change Calls _ _ _ ((w.alloc (.cells #[.slice A t.basics.length capa,.slice B t.causes.length capb,.slice G t.gates.length capg] 33)).alloc (.cells #[.int .i64 0,.int .i64 0] 52)) _;obtain ⟨W,hWW,k0,k1,HXW,eW⟩:=Q5n w 33 #[.slice A t.basics.length capa,.slice B t.causes.length capb,.slice G t.gates.length capg] 52 #[.int .i64 0,.int .i64 0];rw [hWW];clear hWW;have HT:=Lib.hid (HT0.out.ext HXW.out);refine (Q1w _ _ t ⟨_,_,_,rfl,HT.out⟩).mono ?_;rintro e w1 ⟨rfl,hx1⟩;have kt:=k0.ext hx1;have c0:=kt.cell 0;have c1:=kt.cell 1;have c2:=kt.cell 2;simp only [Go.Tw.gA,Go.Tw.gB,Go.Tw.gC] at c0 c1 c2;have HXX:=Lib.hid (HXW.out.trans hx1);have HX1:=Lib.hid hx1;clear kt hx1;have hbr:=k1.ext HX1.out;clear k0 k1
 by_cases he:t.err = 0
 . have HR:Hid (X8b t = lowest (Y9w t) (Q8g 16 t.size)):=Lib.hid (by unfold X8b; rw [if_pos he])
   have hV:=Valid.of he;have HV:=Lib.hid hV;have HE0:=Lib.hid he;have hsz:=hV.size;have hne:(t.err != 0) = false:=by simp [he]
   clear he hV;go_wp2_with fail;refine (Q3n _ _ t HV.out ⟨_,_,_,rfl,HT.out.ext HX1.out⟩).mono ?_;rintro e w2 ⟨fv,gv,rfl,hn,hx2⟩;obtain ⟨A1,cap1,rfl,_,_,_⟩:=hn.fails.opened;obtain ⟨A2,cap2,rfl,_,_,_⟩:=hn.gates.opened;rw [Q2p] at hn ⊢;have HN:=Lib.hid hn;have HX2:=Lib.hid hx2;clear hn hx2 c0 c1 c2;replace hbr:=hbr.ext HX2.out;have hbl:=hbr.lt;go_wp2_with (first | (refine Q0j rfl _ 129 rfl Tryz.Q1x Tryz.Q0t rfl hb9 rfl ?_) | (refine Q0d rfl _ _ 129 rfl Tryz.Q0t rfl rfl (Blk.made _ _ _) rfl rfl ?_ ?_; (focus (intro u hu; simp [outA] at hu; rcases hu with rfl | rfl | rfl | rfl | rfl | rfl | rfl | rfl | rfl | rfl | rfl | rfl | rfl | rfl | rfl | rfl <;> rfl)); intro w9 hb9 hl9 ho9) | fail)
   have hx9:Ext w2 w9:=Below.trans (Ext.box w2 _) (hl9 _ (Nat.le_refl _));have HXX9:Hid (Ext w w9):=by exact (HXX.out.trans HX2.out).trans hx9
   have HN9:=Lib.hid (HN.out.ext hx9);replace hbr:=hbr.ext hx9;refine (X0d _ _ _ t t.Q0b 73 (noV t t.Q0b (.slice A1 t.size cap1) (.slice A2 t.gates.length cap2)) (fun s=>t.fails (evN s)) HV.out HN9.out (HTAB.out.ext HXX9.out) (enters_of Tryz.func73 (by kernel_rfl) rfl) (fun W s hx hs=>Q8q W _ _ t t.Q0b s HV.out hs (HN9.out.ext hx))).mono ?_
   rintro e w3 ⟨x,ll,rfl,hii,hp,hso,hx3⟩;have hll:=X6y (p:=false) hsz (fun s hs=>Z1i hsz hs) hp hso;have hlen:ll.length <= 4096:=by
    have h1:=hp.length_eq;have h2:=X9z (fun s=>t.fails (evN s)) t.size (List.finRange (2 ^ t.size));have h3:(2:Nat) ^ t.size <= 2 ^ 12:=Nat.pow_le_pow_right (by omega) hsz
    rw [List.length_finRange] at h2;omega
   have HB3:Hid (Blk w3 w2.heap.size 129 (outA t.size (.slice A1 t.size cap1) t.Q0b t.basics.length (.slice A2 t.gates.length cap2))):=by exact hb9.ext hx3
   have HXX3:=Lib.hid (HXX9.out.trans hx3);have HBR:=Lib.hid (hbr.ext hx3);have HLL:Hid (ll = t.sets false):=Lib.hid hll;have HSM:=Lib.hid HV.out.small;have HCL:=Lib.hid (Q5k t);obtain ⟨Am,capm,rfl,_,_,hcc⟩:=hii.opened;have HCC:=Lib.hid hcc;have s0:=HB3.out.cell 0;simp only [outA,Go.Tw.gA,Go.Tw.gB] at s0;clear hp hso hii hl9 ho9 hb9 hx9 hbr hll hcc;go_wp2
   go_loop [6,24] (fun o i=>∃ (k:Nat),k <= ll.length /\ i = .int .i64 k /\ o = .int .i64 (Y1p t.Q0b t.size (ll.take k))) (fun _ i=>ll.length - (intOf i).toNat)
   case atStart=>exact ⟨0,Nat.zero_le _,rfl,rfl⟩
   case round =>
    obtain ⟨k,hk,rfl,rfl⟩:=hrel
    by_cases hlt:k < ll.length
    . obtain ⟨b,off,mv,rfl,hbw,hcell,hm⟩:=HCC.out k hlt
      have HTK:Hid (Y1p t.Q0b t.size (ll.take (k + 1)) = Y1p t.Q0b t.size (ll.take k) + Q4q t.Q0b (ll.getD k []) t.size):=Lib.hid (by rw [List.take_succ_eq_append_getElem hlt,Y1n]; simp [hlt])
      have hb0:=Y5e HSM.out (n:=t.size) (by rw [HCL.out]; exact Nat.le_refl _) (ll.take k)
      rw [List.length_take,Nat.min_eq_left hk] at hb0;obtain ⟨s,hs⟩:∃ s,ll.getD k [] = s:=⟨_,rfl⟩;rw [hs] at HTK hm;obtain ⟨S,hS⟩:∃ S,Y1p t.Q0b t.size (ll.take k) = S:=⟨_,rfl⟩;rw [hS] at HTK hb0 ⊢;have hbt:=X5b HSM.out s (m:=t.size) (by rw [HCL.out]; exact Nat.le_refl _)
      obtain ⟨Aq,capq,rfl,_,_,_⟩:=hm.opened;have HM:=Lib.hid hm;clear hs hS hm;go_wp2
      go_loop [9,31] (fun o i=>∃ (m:Nat),m <= t.size /\ i = .int .i64 m /\ o = .int .i64 (Q4q t.Q0b s m)) (fun _ i=>t.size - (intOf i).toNat)
      case atStart=>exact ⟨0,Nat.zero_le _,rfl,rfl⟩
      case round =>
       obtain ⟨m,hm,rfl,rfl⟩:=hrel
       by_cases hmt:m < t.size
       . have n0:=HB3.out.cell (2 + m)
         rw [X9b _ _ _ _ _ (by omega)] at n0
         have hp:=X5b HSM.out s (m:=m) (by rw [HCL.out]; exact hm)
         have hp1:=X5b HSM.out s (m:=m + 1) (by rw [HCL.out]; omega)
         have hix:=HSM.out.ix (j:=m) (by rw [HCL.out]; exact hmt)
         have HST:Hid (Q4q t.Q0b s (m + 1) = Q4q t.Q0b s m * if has s m then ix t.Q0b m else 16):=by exact (rfl:Q4q t.Q0b s (m + 1) = _)
         obtain ⟨p,hpe⟩:∃ p,Q4q t.Q0b s m = p:=⟨_,rfl⟩;obtain ⟨y,hye⟩:∃ y,ix t.Q0b m = y:=⟨_,rfl⟩;rw [hpe,hye] at HST;rw [hye] at n0 hix;rw [HST.out] at hp1;rw [hpe] at hp ⊢;have hm12:m < 12:=by omega
         have hmI:(m:Int) < 12:=by omega
         have HCT:=Lib.hid (X2n w3 _ s m HM.out);clear hpe hye;cases hb:has s m with
         | true =>
           rw [hb] at HST hp1 HCT;simp only [if_true] at HST hp1;have HP1:=Lib.hid hp1;have hw:IntKind.i64.wrap (p * y) = p * y:=Q6r _ HP1.out.1 (by have:=HP1.out.2; omega)
           clear hp1 hb;go_wp2_with (go_at_call 78; refine HCT.out.mono ?_; rintro e w' ⟨rfl,rfl⟩);go_round
           case rel=>exact ⟨m + 1,by omega,by go_num,by rw [HST.out]⟩
           case measure=>simp [intOf]; omega
         | false =>
           rw [hb] at HST hp1 HCT;simp only [Bool.false_eq_true,if_false] at HST hp1;have HP1:=Lib.hid hp1;have hw:IntKind.i64.wrap (p * 16) = p * 16:=Q6r _ HP1.out.1 (by have:=HP1.out.2; omega)
           clear hp1 hb;go_wp2_with (go_at_call 78; refine HCT.out.mono ?_; rintro e w' ⟨rfl,rfl⟩);go_round
           case rel=>exact ⟨m + 1,by omega,by go_num,by rw [HST.out]⟩
           case measure=>simp [intOf]; omega
       . have e:m = t.size:=by omega
         subst e;have hw:IntKind.i64.wrap (S + Q4q t.Q0b s t.size) = S + Q4q t.Q0b s t.size:=Q6r _ (by omega) (by omega)
         go_wp2;go_round
         case rel=>exact ⟨k + 1,by omega,by go_num,by rw [HTK.out]⟩
         case measure=>simp [intOf]; omega
    . have HS:Hid (Y1p t.Q0b t.size (ll.take k) = Y9w t):=Lib.hid (by rw [List.take_of_length_le (by omega),HLL.out]; rfl)
      have hb0:=Y5e HSM.out (n:=t.size) (by rw [HCL.out]; exact Nat.le_refl _) (ll.take k)
      rw [List.length_take,Nat.min_eq_left hk] at hb0;have hpb:=X6u hsz;obtain ⟨d,hd⟩:∃ d,Q8g 16 t.size = d:=⟨_,rfl⟩;obtain ⟨S,hS⟩:∃ S,Y1p t.Q0b t.size (ll.take k) = S:=⟨_,rfl⟩;rw [hS] at HS hb0 ⊢;rw [hd] at HR hpb;have HP:Hid (∀ w',Calls Tryz.prog 93 #[noV t t.Q0b (.slice A1 t.size cap1) (.slice A2 t.gates.length cap2)] w' fun e w''=>e = .returned (.int .i64 d) /\ Ext w' w''):=by
       exact (by intro w'; rw [<- hd]; exact X2c w' t t.Q0b A1 A2 _ _ _ _ hsz:∀ w',Calls Tryz.prog 93 #[noV t t.Q0b (.slice A1 t.size cap1) (.slice A2 t.gates.length cap2)] w' fun e w''=>e = .returned (.int .i64 d) /\ Ext w' w'')
      have hS2:S <= 4611686018427387904:=by omega
      have hS1:=hb0.1;clear hd hS hb0;go_wp2_with (first | (refine Q0j rfl _ _ rfl Tryz.Q1x Tryz.Q0t rfl HB3.out rfl ?_) | (go_at_call 93; refine (HP.out _).mono ?_; rintro e w4 ⟨rfl,hx4⟩) | (go_at_call 91; refine (Q8v _ S d hS1 hS2 (by omega) (by omega)).mono ?_; rintro e w5 ⟨rfl,hx5⟩) | (refine Q0d rfl _ _ _ rfl Tryz.Q1t rfl rfl ((HBR.out.ext hx4).ext hx5) rfl rfl ?_ ?_; (focus (exact Q6p _ _)); intro w8 hb8 hl8 ho8))
      refine bodyPost_ret (Q0n Tryz.results39 rfl hb8 Tryz.Q5x Tryz.Q1t rfl) rfl ?_;exact ⟨by rw [HR.out,HE0.out,<- HS.out]; rfl,Below.trans ((HXX3.out.trans hx4).trans hx5) (hl8 _ (by omega))⟩
 . have HR:Hid (X8b t = ⟨0,0⟩):=Lib.hid (by unfold X8b; rw [if_neg he])
   have hne:(t.err != 0) = true:=by simp [he]
   clear he;go_wp2_with (refine Q0d rfl _ _ _ rfl Tryz.Q1t rfl rfl hbr rfl rfl ?_ ?_; (focus (exact Q8e ⟨0,0⟩)); intro w8 hb8 hl8 ho8);refine bodyPost_ret (Q0n Tryz.results39 rfl hb8 Tryz.Q5x Tryz.Q1t rfl) rfl ?_;exact ⟨by rw [HR.out]; rfl,Below.trans HXX.out (hl8 _ (by omega))⟩
end Go.Proofs
namespace Go.Proofs
open Go.RowKit Go.Tw Go.Flow
def Z8j (r s:Ratio):Bool:=r.num == s.num && r.den == s.den
theorem X2b (w:World) (r s:Ratio):(binOp .eql 52 (.agg (encR r)) (.agg (encR s))).run Tryz.prog w = .ok (.bool (Z8j r s)) w:=by
 have u3:=Tryz.underlying3;have a3:∀ w,(isAgg 3).run Tryz.prog w = .ok false w:=fun w=>by kernel_rfl
 have z3:∀ w,(sizeOf 3).run Tryz.prog w = .ok 1 w:=fun w=>by kernel_rfl
 have hS:Tryz.prog.underlying 52 = some (.struct (Tryz.prog.fieldsOf 52)):=by kernel_rfl
 have hp:Tryz.prog.stoodInHeld 52 = false:=by kernel_rfl
 simp only [encR];rw [run_eql_struct,show (10000:Nat) = 9999 + 1 from rfl,run_equalIn_agg w 9999 52 _ _ hS hp]
 simp only [Program.fieldsOf,Tryz.underlying52];unfold Z8j;go_simp
 by_cases h1:r.num = s.num <;> by_cases h2:r.den = s.den <;> simp [h1,h2]
theorem Y2q (w:World) (a b c d:Int):(binOp .eql 52 (.agg (Q9r a b)) (.agg (Q9r c d))).run Tryz.prog w = .ok (.bool (Z8j (lowest a b) (lowest c d))) w:=X2b w _ _
theorem Q5l {P:Program} {fn:Func} {p q r:Tmp} {T:TypeId} (h:fn.results = #[.tmp p,.cell q T,.tmp r]) {tmps:Array Value} {w:World} {g:Nat} (ht:tmps.getD q undef = .pointer (some ⟨g,0,none⟩)) {BT:TypeId} {cs:Array Value} (hb:Blk w g BT cs)
    (hA:∀ w,(isAgg T).run P w = .ok true w) (hS:∀ w,(sizeOf T).run P w = .ok cs.size w) {u v:Value} (hp:tmps.getD p undef = u) (hr:tmps.getD r undef = v):(results fn tmps).run P w = .ok (.tuple #[u,.agg cs,v]) w:=by
 unfold results;rw [h];simp only [List.mapM_toArray,List.mapM_cons,List.mapM_nil,Sem.run_bind,Sem.run_pure,ht,hp,hr,asAddr];simp [Q3u hb hA hS]
def Y3p (t:Tree) (k:Nat):Int:=Q1m t (Q1z t.Q0b [(k:Int)] 0) 0
def Z5k (t:Tree) (p:Nat × Int) (k:Nat):Nat × Int:=if Y3p t k < p.2 then (k,Y3p t k) else p
def Q6u (t:Tree):Nat -> Nat × Int
 | 0=>(0,Q1m t t.Q0b 0)
 | k + 1=>Z5k t (Q6u t k) k
def Y9c (t:Tree):Nat × Int:=Q6u t t.size
def Q7v (t:Tree):Bool:=Z8j (lowest (Y9c t).2 (Q8g 16 t.size)) (lowest (Q1m t t.Q0b 0) (Q8g 16 t.size))
def X3p (t:Tree):Int:=if t.err = 0 then (if Q7v t then 7 else 0) else t.err
def X8l (t:Tree):Nat:=if t.err = 0 then (if Q7v t then 0 else (Y9c t).1) else 0
def nextR (t:Tree):Ratio:=if t.err = 0 then (if Q7v t then ⟨0,0⟩ else lowest (Y9c t).2 (Q8g 16 t.size)) else ⟨0,0⟩
theorem Y5s {t:Tree} (hv:Valid t) (k:Nat):0 <= Y3p t k /\ Y3p t k <= 1152921504606846976:=Q5o (Small.put hv.small (by omega) (by omega)) t 0 hv.size
theorem Y0s {t:Tree} (hv:Valid t):∀ k,0 <= (Q6u t k).2 /\ (Q6u t k).2 <= 1152921504606846976
 | 0=>Q5o hv.small t 0 hv.size
 | k + 1=>by
   have h1:=Y0s hv k;have h2:=Y5s hv k;show 0 <= (if _ then _ else _:Nat × Int).2 /\ (if _ then _ else _:Nat × Int).2 <= _
   split <;> assumption
attribute [local go_sem ↓] Y2q
theorem Z0l (w:World) (v:Value) (t:Tree) (ht:IsTree w v t) :
    Calls Tryz.prog 45 #[v] w fun e w'=>e = .returned (.tuple #[.int .i64 (X8l t),.agg (encR (nextR t)),.int .i64 (X3p t)]) /\ Ext w w':=by
 obtain ⟨a,b,c,rfl,h3⟩:=ht;obtain ⟨A,capa,rfl,hl1,hcap1,_⟩:=h3.basics.opened;obtain ⟨B,capb,rfl,hl2,hcap2,_⟩:=h3.causes.opened;obtain ⟨G,capg,rfl,hl3,hcap3,_⟩:=h3.gates.opened;have HT0:=Lib.hid h3;clear h3;go_enter Tryz.func45,Tryz.ntmps45;go_wp2_with fail;change Calls _ _ _ ((w.alloc (.cells #[.slice A t.basics.length capa,.slice B t.causes.length capb,.slice G t.gates.length capg] 33)).alloc (.cells #[.int .i64 0,.int .i64 0] 52)) _;obtain ⟨W,hWW,k0,k1,HXW,eW⟩:=Q5n w 33 #[.slice A t.basics.length capa,.slice B t.causes.length capb,.slice G t.gates.length capg] 52 #[.int .i64 0,.int .i64 0];rw [hWW];clear hWW;have HT:=Lib.hid (HT0.out.ext HXW.out);refine (Q1w _ _ t ⟨_,_,_,rfl,HT.out⟩).mono ?_;rintro e w1 ⟨rfl,hx1⟩;have kt:=k0.ext hx1;have c0:=kt.cell 0;have c1:=kt.cell 1;have c2:=kt.cell 2;simp only [Go.Tw.gA,Go.Tw.gB,Go.Tw.gC] at c0 c1 c2;have HXX:=Lib.hid (HXW.out.trans hx1);have HX1:=Lib.hid hx1;clear kt hx1;have hbr:=k1.ext HX1.out;clear k0 k1
 by_cases he:t.err = 0
 . have HA:Hid (X8l t = if Q7v t then 0 else (Y9c t).1):=Lib.hid (by unfold X8l; rw [if_pos he])
   have HR:Hid (nextR t = if Q7v t then ⟨0,0⟩ else lowest (Y9c t).2 (Q8g 16 t.size)):=Lib.hid (by unfold nextR; rw [if_pos he])
   have HRE:Hid (X3p t = if Q7v t then 7 else 0):=Lib.hid (by unfold X3p; rw [if_pos he])
   have hV:=Valid.of he;have HV:=Lib.hid hV;have HE0:=Lib.hid he;have hsz:=hV.size;have hne:(t.err != 0) = false:=by simp [he]
   clear he hV;go_wp2_with fail;refine (Q3n _ _ t HV.out ⟨_,_,_,rfl,HT.out.ext HX1.out⟩).mono ?_;rintro e w2 ⟨fv,gv,rfl,hn,hx2⟩;obtain ⟨A1,cap1,rfl,_,_,_⟩:=hn.fails.opened;obtain ⟨A2,cap2,rfl,_,_,_⟩:=hn.gates.opened;rw [Q2p] at hn ⊢;have HN:=Lib.hid hn;have HX2:=Lib.hid hx2;clear hn hx2 c0 c1 c2;replace hbr:=hbr.ext HX2.out;have hbl:=hbr.lt;go_wp2_with (first | (refine Q0j rfl _ 129 rfl Tryz.Q1x Tryz.Q0t rfl hb9 rfl ?_) | (refine Q2d rfl _ 124 rfl Tryz.Q7u Tryz.Q4i rfl (Q2c hb9) rfl ?_) | (refine Q0d rfl _ _ 129 rfl Tryz.Q0t rfl rfl (Blk.made _ _ _) rfl rfl ?_ ?_; (focus (intro u hu; simp [outA] at hu; rcases hu with rfl | rfl | rfl | rfl | rfl | rfl | rfl | rfl | rfl | rfl | rfl | rfl | rfl | rfl | rfl | rfl <;> rfl)); intro w9 hb9 hl9 ho9) | fail)
   have hx9:Ext w2 w9:=Below.trans (Ext.box w2 _) (hl9 _ (Nat.le_refl _));have HXX9:Hid (Ext w w9):=by exact (HXX.out.trans HX2.out).trans hx9
   have HN9:=Lib.hid (HN.out.ext hx9);replace hbr:=hbr.ext hx9;have HB9:=Lib.hid hb9;have HCL:=Lib.hid (Q5k t);have HSM:=Lib.hid HV.out.small;clear hl9 ho9 hb9 hx9;refine (Q5m _ _ _ t t.Q0b t.Q0b 0 HV.out HN9.out HSM.out HCL.out (by omega)).mono ?_
   rintro e w3 ⟨rfl,hx3⟩;clear HX1;have HX93:=Lib.hid hx3;have HBR:=Lib.hid (hbr.ext hx3);have hw2l:=hbl;have HSTART:Hid (Q1m t t.Q0b 0 = (Q6u t 0).2):=Lib.hid (rfl);have s0:=(HB9.out.ext hx3).cell 0;simp only [outA,Go.Tw.gA,Go.Tw.gB] at s0;have hwb:=Q5o HSM.out t 0 hsz;obtain ⟨all,hall⟩:∃ m,Q1m t t.Q0b 0 = m:=⟨_,rfl⟩;rw [hall] at HSTART hwb ⊢;have HALL:=Lib.hid hall;clear hbr hx3 hall hbl;go_wp2
   go_loopw [8,9,30] (fun b l i wr=>∃ (k:Nat),k <= t.size /\ i = .int .i64 k /\ b = .int .i64 (Q6u t k).1 /\ l = .int .i64 (Q6u t k).2 /\ Ext w3 wr) (fun _ _ i _=>t.size - (intOf i).toNat)
   case atStart=>exact ⟨0,Nat.zero_le _,rfl,rfl,by rw [HSTART.out],Ext.refl _⟩
   case round =>
    obtain ⟨k,hk,rfl,rfl,rfl,hx⟩:=hrel;have hnb:=Y0s HV.out k;have HX:=Lib.hid hx
    by_cases hlt:k < t.size
    . have HST:Hid (Q6u t (k + 1) = if Y3p t k < (Q6u t k).2 then (k,Y3p t k) else Q6u t k):=by exact (rfl:Q6u t (k + 1) = _)
      have hnw:=Y5s HV.out k;have HS0:=Lib.hid (Small.put (l:=[(k:Int)]) HSM.out (n:=0) (by omega) (by omega))
      obtain ⟨m,hm⟩:∃ m,Y3p t k = m:=⟨_,rfl⟩;have HW0:Hid (∀ w',Ext w9 w' -> Calls Tryz.prog 92 #[noV t t.Q0b (.slice A1 t.size cap1) (.slice A2 t.gates.length cap2),chV (Q1z t.Q0b [(k:Int)] 0),.int .i64 0] w' fun e w''=>e = .returned (.int .i64 m) /\ Ext w' w''):=by
       exact (by intro w' hx; rw [<- hm]; exact Q5m w' _ _ t t.Q0b _ 0 HV.out (HN9.out.ext hx) HS0.out (by rw [Q9c,HCL.out]) (by omega):∀ w',Ext w9 w' -> Calls Tryz.prog 92 #[noV t t.Q0b (.slice A1 t.size cap1) (.slice A2 t.gates.length cap2),chV (Q1z t.Q0b [(k:Int)] 0),.int .i64 0] w' fun e w''=>e = .returned (.int .i64 m) /\ Ext w' w'')
      rw [hm] at HST hnw;obtain ⟨pb,hpb⟩:∃ p,(Q6u t k).1 = p:=⟨_,rfl⟩;obtain ⟨pl,hpl⟩:∃ p,(Q6u t k).2 = p:=⟨_,rfl⟩;rw [hpb,hpl];rw [hpl] at HST hnb;have HPB:=Lib.hid hpb;have HPL:=Lib.hid hpl;have hkI:(k:Int) < 12:=by omega
      have hdr:=(Ext.refl wr).drew;have HIN:Hid (∀ x ∈ [(k:Int)],0 <= x /\ x < t.Q0b.length):=Lib.hid (by intro x hx; rw [List.mem_singleton] at hx; rw [hx,HCL.out]; omega)
      clear hm hpb hpl hx;go_wp2;refine Flow.Q2m [.w,.p,.p,.w,.p,.w,.w,.w,.p] [0,1,2,3,4,5,6,7,8] [[],[],[1],[2],[],[4],[3,5],[0,6],[0,1,2,3,4,5,6,7]]
       [.c 0 (noV t t.Q0b (.slice A1 t.size cap1) (.slice A2 t.gates.length cap2)),.c 1 (.pointer (some ⟨w2.heap.size,0,none⟩)),.c 2 (.pointer (some ⟨w2.heap.size,2,none⟩)),.c 3 (chV t.Q0b),.c 4 (.int .i64 k),⟨fun v wz=>Q0f wz (v 5) [(k:Int)],fun _ _ _ hx h=>h.ext hx⟩,.c 6 (chV (Q1z t.Q0b [(k:Int)] 0)),.c 7 (.int .i64 m),.c 8 (.int .i64 m)]
       (by kernel_rfl) rfl (by kernel_rfl) ⟨?g0,?g1,?g2,?g3,?g4,?g5,?g6,?g7,?g8,trivial⟩ ?post
      case g0=>
       intro v w1 hx;intro bb hbb;intro K hK;have o1:bb.eval (.tmp 6) = .pointer (some ⟨w2.heap.size,0,none⟩):=by rw [hbb]; dsimp only; (try simp (discharger:=decide) only [eval_put_ne]); rfl
       exact Q0h (.tmp 6) _ rfl Tryz.Q1x Tryz.Q0t o1 (HB9.out.ext (HX93.out.trans (HX.out.trans (hdr.trans hx)))) rfl (hK _ _ (Ext.refl _) rfl)
      case g1 | g4=>
       intro v w1 hx;intro bb hbb;subst hbb;refine ⟨_,fun w=>?_,rfl⟩;go_simp
      case g2=>
       intro v w1 hx;(repeat intro (zq:v _ = _));intro bb hbb;subst hbb;refine ⟨_,fun w=>?_,rfl⟩;go_simp
      case g3=>
       intro v w1 hx;(repeat intro (zq:v _ = _));intro bb hbb;intro K hK;have o1:bb.eval (.tmp 35) = .pointer (some ⟨w2.heap.size,2,none⟩):=by rw [hbb]; dsimp only; (try simp (discharger:=decide) only [eval_put_ne]); rw [Q0a (by simp only [size_put]; exact (by decide:35 < 60))]; assumption
       exact Q2x (.tmp 35) _ rfl Tryz.Q7u Tryz.Q4i o1 ((Q2c HB9.out).ext (HX93.out.trans (HX.out.trans (hdr.trans hx)))) rfl (hK _ _ (Ext.refl _) rfl)
      case g5=>
       intro v w1 hx;(repeat intro (zq:v _ = _));intro bb hbb;subst hbb;intro K hK;go_simp;exact hK _ _ (Ext.box _ _) (Q3b (l:=[(k:Int)]) (by simp))
      case g6=>
       intro v w1 hx (q3:v 3 = _) (q5:Q0f w1 (v 5) [(k:Int)]);intro bb hbb;subst hbb;intro K hK;go_simp;refine Q0c (set_any w1 t.Q0b [(k:Int)] _ 0 q5 (by rw [HCL.out]; exact hsz) HIN.out) ?_
       rintro e w2 ⟨rfl,hx2⟩;exact ⟨_,rfl,hK _ _ hx2 rfl⟩
      case g7=>
       intro v w1 hx;(repeat intro (zq:v _ = _));intro bb hbb;subst hbb;intro K hK;go_simp;refine Q0c (HW0.out _ (HX93.out.trans (HX.out.trans (hdr.trans hx)))) ?_;rintro e w2 ⟨rfl,hx2⟩;exact ⟨_,rfl,hK _ _ hx2 rfl⟩
      case g8=>
       intro v w1 hx (q0:v 0 = _) (q1:v 1 = _) (q2:v 2 = _) (q3:v 3 = _) (q4:v 4 = _) _ (q6:v 6 = _) (q7:v 7 = _);intro bb hbb;subst hbb;refine ⟨_,fun w=>?_,rfl⟩;go_simp
      case post =>
       intro v w1 hx;(iterate 5 intro (zq:v _ = _));intro (q5:Q0f w1 (v 5) [(k:Int)]);(iterate 3 intro (zq:v _ = _));simp only [Flow.All,Flow.acts,Act.put];go_simp;have HXX2:=Lib.hid (HX.out.trans (hdr.trans hx));clear hx
       by_cases hlt2:m < pl
       . have HL2:=Lib.hid hlt2
         go_wp2;go_roundw
         case rel=>exact ⟨k + 1,by omega,by go_num,by rw [HST.out,if_pos HL2.out],by rw [HST.out,if_pos HL2.out],HXX2.out⟩
         case measure=>simp [intOf]; omega
       . have HL2:=Lib.hid hlt2
         go_wp2;go_roundw
         case rel=>exact ⟨k + 1,by omega,by go_num,by rw [HST.out,if_neg HL2.out,HPB.out],by rw [HST.out,if_neg HL2.out,HPL.out],HXX2.out⟩
         case measure=>simp [intOf]; omega
    . have e:k = t.size:=by omega
      have HPE:Hid (Y9c t = Q6u t k):=Lib.hid (by rw [e]; rfl)
      have hpb:=X6u hsz;have HSM2:Hid (Q7v t = Z8j (lowest (Q6u t k).2 (Q8g 16 t.size)) (lowest all (Q8g 16 t.size))):=Lib.hid (by unfold Q7v; rw [HPE.out,HALL.out])
      rw [HPE.out] at HA HR;obtain ⟨d,hd⟩:∃ d,Q8g 16 t.size = d:=⟨_,rfl⟩;rw [hd] at HR HSM2 hpb;obtain ⟨pb,hpb'⟩:∃ p,(Q6u t k).1 = p:=⟨_,rfl⟩;obtain ⟨pl,hpl'⟩:∃ p,(Q6u t k).2 = p:=⟨_,rfl⟩;rw [hpb'] at HA ⊢;rw [hpl'] at HR HSM2 hnb ⊢;have HP:Hid (∀ w',Calls Tryz.prog 93 #[noV t t.Q0b (.slice A1 t.size cap1) (.slice A2 t.gates.length cap2)] w' fun e w''=>e = .returned (.int .i64 d) /\ Ext w' w''):=by
       exact (by intro w'; rw [<- hd]; exact X2c w' t t.Q0b A1 A2 _ _ _ _ hsz:∀ w',Calls Tryz.prog 93 #[noV t t.Q0b (.slice A1 t.size cap1) (.slice A2 t.gates.length cap2)] w' fun e w''=>e = .returned (.int .i64 d) /\ Ext w' w'')
      have HXR:=Lib.hid (HX93.out.trans HX.out);have HBW:=Lib.hid (HB9.out.ext HXR.out);clear hd hpb' hpl' hx e;go_wp2_with (first | (refine Q0j rfl _ _ rfl Tryz.Q1x Tryz.Q0t rfl HBW.out rfl ?_) | (go_at_call 93; refine (HP.out _).mono ?_; rintro e w4 ⟨rfl,hx4⟩) | (go_at_call 91; refine (Q8v _ pl d hnb.1 (by omega) (by omega) (by omega)).mono ?_; rintro e w5 ⟨rfl,hx5⟩) | (refine Q0d rfl _ _ _ rfl Tryz.Q1t rfl rfl (Blk.made _ _ _) rfl rfl ?_ ?_; (focus (exact Q6p _ _)); intro w6 hb6 hl6 ho6))
      have hx6:Ext w5 w6:=Below.trans (Ext.box w5 _) (hl6 _ (Nat.le_refl _));have hxa:=(hx4.trans hx5).trans hx6;have HBW6:=Lib.hid (HBW.out.ext hxa);have HBR6:=Lib.hid ((HBR.out.ext HX.out).ext hxa);have HXX6:=Lib.hid ((HXX9.out.trans HXR.out).trans hxa);have hbl6:=hb6.lt;obtain ⟨g6,hg6⟩:∃ g,w5.heap.size = g:=⟨_,rfl⟩;have hg6l:w.heap.size + 1 < g6:=by
       have h1:=((HBR.out.ext HX.out).ext (hx4.trans hx5)).lt;omega
      rw [hg6] at hb6 hbl6 ⊢;have HB6:=Lib.hid hb6;obtain ⟨q,hq⟩:∃ q,Z8j (lowest pl d) (lowest all d) = q:=⟨_,rfl⟩;have hdr:=(Ext.refl w6).drew;rw [hq] at HSM2;clear hx4 hx5 hl6 ho6 hx6 hxa hb6 hg6;refine Flow.Q2m [.w,.p,.w,.w,.w,.p] [0,1,2,3,4,5] [[],[],[],[2],[1,3],[0,4]]
       [.c 0 (.agg (Q9r pl d)),.c 1 (.int .i64 all),.c 2 (noV t t.Q0b (.slice A1 t.size cap1) (.slice A2 t.gates.length cap2)),.c 3 (.int .i64 d),.c 4 (.agg (Q9r all d)),.c 5 (.bool q)]
       (by kernel_rfl) rfl (by kernel_rfl) ⟨?g0,?g1,?g2,?g3,?g4,?g5,trivial⟩ ?post
      case g0=>
       intro v w1 hx;intro bb hbb;intro K hK;have o1:bb.eval (.tmp 12) = .pointer (some ⟨g6,0,none⟩):=by rw [hbb]; dsimp only; (try simp (discharger:=decide) only [eval_put_ne]); rfl
       exact Q0h (.tmp 12) _ rfl Tryz.Q5x Tryz.Q1t o1 (HB6.out.ext (hdr.trans hx)) rfl (hK _ _ (Ext.refl _) rfl)
      case g1=>
       intro v w1 hx;intro bb hbb;subst hbb;refine ⟨_,fun w=>?_,rfl⟩;go_simp
      case g2=>
       intro v w1 hx;intro bb hbb;intro K hK;have o1:bb.eval (.tmp 6) = .pointer (some ⟨w2.heap.size,0,none⟩):=by rw [hbb]; dsimp only; (try simp (discharger:=decide) only [eval_put_ne]); rfl
       exact Q0h (.tmp 6) _ rfl Tryz.Q1x Tryz.Q0t o1 (HBW6.out.ext (hdr.trans hx)) rfl (hK _ _ (Ext.refl _) rfl)
      case g3=>
       intro v w1 hx;(repeat intro (zq:v _ = _));intro bb hbb;subst hbb;intro K hK;go_simp;refine Q0c (HP.out _) ?_;rintro e w2 ⟨rfl,hx2⟩;exact ⟨_,rfl,hK _ _ hx2 rfl⟩
      case g4=>
       intro v w1 hx;(repeat intro (zq:v _ = _));intro bb hbb;subst hbb;intro K hK;go_simp;refine Q0c (Q8v _ all d hwb.1 (by omega) (by omega) (by omega)) ?_
       rintro e w2 ⟨rfl,hx2⟩;exact ⟨_,rfl,hK _ _ hx2 rfl⟩
      case g5=>
       intro v w1 hx;(repeat intro (zq:v _ = _));intro bb hbb;subst hbb;refine ⟨_,fun w=>?_,rfl⟩;go_simp
      case post =>
       intro v w1 hx (q0:v 0 = _) (q1:v 1 = _) (q2:v 2 = _);(iterate 3 intro (zq:v _ = _));simp only [Flow.All,Flow.acts,Act.put];go_simp;have hxx:=hdr.trans hx;have HB7:=Lib.hid (HB6.out.ext hxx);have hbr7:=HBR6.out.ext hxx;have HXX7:=Lib.hid (HXX6.out.trans hxx);have HBR7:=Lib.hid hbr7;clear hx hxx hq;cases q with
       | true =>
         go_wp2_with (refine Q0d rfl _ _ _ rfl Tryz.Q1t rfl rfl hbr7 rfl rfl ?_ ?_; (focus (exact Q8e ⟨0,0⟩)); intro w8 hb8 hl8 ho8);refine bodyPost_ret (Q5l Tryz.results45 rfl hb8 Tryz.Q5x Tryz.Q1t rfl rfl) rfl ?_;exact ⟨by rw [HA.out,HR.out,HRE.out,HSM2.out]; rfl,Below.trans HXX7.out (hl8 _ (by omega))⟩
       | false =>
         clear hbr7;have hdr:=(Ext.refl w1).drew;go_wp2;refine Flow.Q4f [.p,.w,.p,.last,.last] [0,1,2,3,4] [[],[],[0],[0,1,2],[0,1,2,3]] [3,4]
          [.c 0 (.int .i64 pb),.c 1 (.agg (Q9r pl d)),.c 2 (.int .i64 pb),.none,.none]
          [fun v w1 w'=>Blk w' (w.heap.size + 1) 52 (Q9r pl d) /\ Below w.heap.size w1 w',fun v w1 w'=>v 4 = .int .i64 0 /\ Blk w' (w.heap.size + 1) 52 (Q9r pl d) /\ Below w.heap.size w1 w'] (by kernel_rfl) rfl (by kernel_rfl) ⟨?g0,?g1,?g2,?g3,?g4,trivial⟩ ?post
         case g0=>
          intro v w1 hx;intro bb hbb;subst hbb;refine ⟨_,fun w=>?_,rfl⟩;go_simp
         case g1=>
          intro v w1 hx;intro bb hbb;intro K hK;have o1:bb.eval (.tmp 12) = .pointer (some ⟨g6,0,none⟩):=by rw [hbb]; dsimp only; (try simp (discharger:=decide) only [eval_put_ne]); rfl
          exact Q0h (.tmp 12) _ rfl Tryz.Q5x Tryz.Q1t o1 (HB7.out.ext (hdr.trans hx)) rfl (hK _ _ (Ext.refl _) rfl)
         case g2=>
          intro v w1 hx;(repeat intro (zq:v _ = _));intro bb hbb;subst hbb;refine ⟨_,fun w=>?_,rfl⟩;go_simp
         case g3=>
          intro v w1 hx;(repeat intro (zq:v _ = _));intro wl hT;obtain rfl:wl = w1:=hT;intro bb hbb;intro K hK;have o1:bb.eval (.tmp 3) = .pointer (some ⟨w.heap.size + 1,0,none⟩):=by rw [hbb]; dsimp only; (try simp (discharger:=decide) only [eval_put_ne]); rfl
          have o2:bb.eval (.tmp 59) = .agg (Q9r pl d):=by rw [hbb]; dsimp only; (try simp (discharger:=decide) only [eval_put_ne]); rw [Q0a (by simp only [size_put]; exact (by decide:59 < 60))]; assumption
          exact Q1o (.tmp 3) (.tmp 59) _ rfl Tryz.Q1t o1 o2 (HBR7.out.ext (hdr.trans hx)) rfl rfl (Q6p _ _) (fun vv w' hb hl ho=>hK _ _ ⟨hb,hl _ (by omega)⟩)
         case g4=>
          intro v w1 hx;(repeat intro (zq:v _ = _));intro wl hT;replace hT:(fun v w1 w'=>Blk w' (w.heap.size + 1) 52 (Q9r pl d) /\ Below w.heap.size w1 w') v w1 wl:=hT;intro bb hbb;subst hbb;intro K hK;go_simp;exact hK _ _ ⟨rfl,hT⟩
         case post =>
          intro v w1 hx;(iterate 3 intro (zq:v _ = _));intro w2 hE;replace hE:(fun v w1 w'=>v 4 = .int .i64 0 /\ Blk w' (w.heap.size + 1) 52 (Q9r pl d) /\ Below w.heap.size w1 w') v w1 w2:=hE;simp only [Flow.acts,Act.put];go_simp;obtain ⟨hz9,hb8,hl8⟩:=hE;go_wp2;refine bodyPost_ret (Q5l Tryz.results45 rfl hb8 Tryz.Q5x Tryz.Q1t rfl rfl) rfl ?_;exact ⟨by rw [HA.out,HR.out,HRE.out,HSM2.out]; simp [hz9]; rfl,Below.trans (HXX7.out.trans (hdr.trans hx)) hl8⟩
 . have HA:Hid (X8l t = 0):=Lib.hid (by unfold X8l; rw [if_neg he])
   have HR:Hid (nextR t = ⟨0,0⟩):=Lib.hid (by unfold nextR; rw [if_neg he])
   have HRE:Hid (X3p t = t.err):=Lib.hid (by unfold X3p; rw [if_neg he])
   have hne:(t.err != 0) = true:=by simp [he]
   clear he;go_wp2_with (refine Q0d rfl _ _ _ rfl Tryz.Q1t rfl rfl hbr rfl rfl ?_ ?_; (focus (exact Q8e ⟨0,0⟩)); intro w8 hb8 hl8 ho8);refine bodyPost_ret (Q5l Tryz.results45 rfl hb8 Tryz.Q5x Tryz.Q1t rfl rfl) rfl ?_;exact ⟨by rw [HA.out,HR.out,HRE.out]; rfl,Below.trans HXX.out (hl8 _ (by omega))⟩
end Go.Proofs
