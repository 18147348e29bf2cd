/- Contracts: slices.Index, Contains, IndexFunc, ContainsFunc over ints. Contracts: Bound. -/
import Derived.Test.YtmaejccjimkbiaaGreatDoorFx05
import Derived.Test.YtmaejccjimkbiaaGreatDoorFx25
set_option linter.unusedVariables false
set_option linter.unusedSimpArgs false
set_option linter.constructorNameAsVariable false
namespace Go.Proofs
open Go.RowKit Go.Tw Go.Flow
set_option maxHeartbeats 400000 in
theorem Y6k (w:World) (v:Value) (l:List Int) (x:Int) (hv:Q0f w v l) :
    Calls Tryz.prog 140 #[v,.int .i64 x] w fun e w'=>∃ r:Int,e = .returned (.int .i64 r) ∧ decide (0 ≤ r) = has l x ∧ w = w':=by
 obtain ⟨A,cap,rfl,hl,hcap,hc⟩:=hv.opened;clear hv;go_enter Tryz.func140,Tryz.ntmps140;go_wp2
 go_loop [8] (fun i=>∃ k:Nat,k ≤ l.length ∧ i = .int .i64 k ∧ has (l.drop k) x = has l x) (fun i=>l.length - (intOf i).toNat)
 case atStart=>exact ⟨0,Nat.zero_le _,rfl,rfl⟩
 case round =>
  obtain ⟨k,hk,rfl,hr⟩:=hrel;have HR:=Lib.hid hr; clear hr
  by_cases hlt:k < l.length
  · obtain ⟨b,off,rfl,hcell⟩:=hc k hlt
    clear hc
    by_cases hx:ix l k = x
    · have HX:=Lib.hid hx
      have hx1:(x == ix l k) = true:=by simp [hx]
      clear hx;go_wp2;go_ret;exact ⟨k,rfl,by rw [← HR.out,Q3q hlt,X3z,HX.out]; simp,rfl⟩
    · have hx1:(x == ix l k) = false:=by rw [beq_eq_false_iff_ne]; exact fun e=>hx e.symm
      have HX:=Lib.hid hx; clear hx;go_wp2;go_round
      case rel=>exact ⟨k + 1,by omega,by go_num,by rw [← HR.out,Q3q hlt,X3z,beq_false_of_ne HX.out,Bool.false_or]⟩
      case measure=>simp [intOf]; omega
  · clear hc
    go_wp2;go_ret;exact ⟨-1,rfl,by rw [← HR.out,List.drop_eq_nil_of_le (by omega)]; rfl,rfl⟩
theorem X1h (w:World) (v:Value) (l:List Int) (x:Int) (hv:Q0f w v l) :
    Calls Tryz.prog 97 #[v,.int .i64 x] w fun e w'=>e = .returned (.bool (has l x)) ∧ w = w':=by
 obtain ⟨A,cap,rfl,hl,hcap,hc⟩:=hv.opened;have HV:=Lib.hid hv;clear hv hc;go_enter Tryz.func97,Tryz.ntmps97;go_wp2_with (go_at_call 140; refine (Y6k _ _ l x HV.out).mono ?_; rintro e w' ⟨r,rfl,hr,rfl⟩; have HR:=Lib.hid hr; clear hr);go_ret;exact ⟨Q1q HR.out,rfl⟩
set_option maxHeartbeats 400000 in
theorem Y1k (w:World) (v:Value) (l:List Int) (g:Nat) (c:Value) (p:Int → Bool) (hv:Q0f w v l) (eg:∀ args w,(callFunc g args).run Tryz.prog w = .ok (.enter g args) w)
    (hp:∀ W x,Ext w W → x ∈ l → Calls Tryz.prog g #[.int .i64 x,c] W fun e W'=>e = .returned (.bool (p x)) ∧ Ext W W') :
    Calls Tryz.prog 135 #[v,.func (.func g) #[] #[c]] w fun e w'=>∃ r:Int,e = .returned (.int .i64 r) ∧ decide (0 ≤ r) = l.any p ∧ Ext w w':=by
 obtain ⟨A,cap,rfl,hl,hcap,hc⟩:=hv.opened;have HP:=Lib.hid hp;have HC:=Lib.hid hc;clear hv hp hc;go_enter Tryz.func135,Tryz.ntmps135;go_wp2
 go_loopw [8] (fun i wr=>∃ k:Nat,k ≤ l.length ∧ i = .int .i64 k ∧ (l.drop k).any p = l.any p ∧ Ext w wr) (fun i _=>l.length - (intOf i).toNat)
 case atStart=>exact ⟨0,Nat.zero_le _,rfl,rfl,Ext.refl _⟩
 case round =>
  obtain ⟨k,hk,rfl,hr,hx⟩:=hrel;have HR:=Lib.hid hr; clear hr
  by_cases hlt:k < l.length
  · obtain ⟨b,off,rfl,hcell⟩:=HC.out k hlt
    replace hcell:=hx.cell hcell;have hmem:ix l k ∈ l:=by rw [Q8m hlt]; exact List.getElem_mem hlt
    have hd:=Q3q hlt;have HST:Hid (l.any p = (p (ix l k) || (l.drop (k + 1)).any p)):=by exact (by rw [← HR.out,hd,List.any_cons]:l.any p = (p (ix l k) || (l.drop (k + 1)).any p))
    obtain ⟨y,hy⟩:∃ y,ix l k = y:=⟨_,rfl⟩;have HPY:=Lib.hid (HP.out wr (ix l k) hx hmem);rw [hy] at HPY hcell HST;obtain ⟨q,hq⟩:∃ q,p y = q:=⟨_,rfl⟩;rw [hq] at HPY HST;clear hq hy hd hmem;cases q with
    | true =>
      go_wp2_with (refine HPY.out.mono ?_; rintro e w9 ⟨rfl,hx9⟩);go_ret;exact ⟨k,rfl,by rw [HST.out]; simp,hx.trans hx9⟩
    | false =>
      go_wp2_with (refine HPY.out.mono ?_; rintro e w9 ⟨rfl,hx9⟩);go_roundw
      case rel=>exact ⟨k + 1,by omega,by go_num,by rw [HST.out,Bool.false_or],hx.trans hx9⟩
      case measure=>simp [intOf]; omega
  · go_wp2
    go_ret;exact ⟨-1,rfl,by rw [← HR.out,List.drop_eq_nil_of_le (by omega)]; rfl,hx⟩
theorem Q7v (w:World) (v:Value) (l:List Int) (g:Nat) (c:Value) (p:Int → Bool) (hv:Q0f w v l) (eg:∀ args w,(callFunc g args).run Tryz.prog w = .ok (.enter g args) w)
    (hp:∀ W x,Ext w W → x ∈ l → Calls Tryz.prog g #[.int .i64 x,c] W fun e W'=>e = .returned (.bool (p x)) ∧ Ext W W') :
    Calls Tryz.prog 78 #[v,.func (.func g) #[] #[c]] w fun e w'=>e = .returned (.bool (l.any p)) ∧ Ext w w':=by
 have HI:=Lib.hid (Y1k w v l g c p hv eg hp);obtain ⟨A,cap,rfl,hl,hcap,hc⟩:=hv.opened;obtain ⟨q,hq⟩:∃ q,l.any p = q:=⟨_,rfl⟩;rw [hq] at HI ⊢;clear hv hc hp hq;go_enter Tryz.func78,Tryz.ntmps78;go_wp2_with (go_at_call 135; refine HI.out.mono ?_; rintro e w' ⟨r,rfl,hr,hx⟩; have HR:=Lib.hid hr; clear hr);go_ret;exact ⟨Q1q HR.out,hx⟩
end Go.Proofs
namespace Go.Proofs
open Go.RowKit Go.Tw Go.Flow
def Q3z (c s:List Int):Nat → Int
 | 0=>1
 | m + 1=>Q3z c s m * if has s m then ix c m else 16
def X6n (c:List Int) (n:Nat):List (List Int) → Int
 | []=>0
 | s :: l=>Q3z c s n + X6n c n l
theorem Y1a (c:List Int) (n:Nat) (s:List Int):∀ l,X6n c n (l ++ [s]) = X6n c n l + Q3z c s n
 | []=>by simp [X6n]
 | y :: l=>by rw [List.cons_append,X6n,X6n,Y1a c n s l,Int.add_assoc]
theorem Y4g {c:List Int} (h:Small c) (s:List Int):∀ m,m ≤ c.length → 0 ≤ Q3z c s m ∧ Q3z c s m ≤ 16 ^ m
 | 0,_=>by simp [Q3z]
 | m + 1,hm=>by
   obtain ⟨h1,h2⟩:=Y4g h s m (by omega)
   have h3:=h.ix (j:=m) (by omega)
   have hf:0 ≤ (if has s m then ix c m else 16) ∧ (if has s m then ix c m else 16) ≤ 16:=by split <;> omega
   rw [Q3z];refine ⟨Int.mul_nonneg h1 hf.1,?_⟩;rw [Int.pow_succ];exact Int.mul_le_mul h2 hf.2 hf.1 (Int.pow_nonneg (by omega))
theorem X4c {c:List Int} (h:Small c) (s:List Int) {m:Nat} (hm:m ≤ c.length):0 ≤ Q3z c s m ∧ Q3z c s m ≤ 281474976710656:=by
 have h1:=Y4g h s m hm;have h2:(16:Int) ^ m ≤ 16 ^ 12:=by
  have:=h.len
  exact_mod_cast Nat.pow_le_pow_right (n:=16) (by omega) (show m ≤ 12 by omega)
 exact ⟨h1.1,Int.le_trans h1.2 (Int.le_trans h2 (by decide))⟩
theorem Y2z {c:List Int} (h:Small c) {n:Nat} (hn:n ≤ c.length):∀ l:List (List Int),0 ≤ X6n c n l ∧ X6n c n l ≤ l.length * 281474976710656
 | []=>by simp [X6n]
 | s :: l=>by
   have h1:=X4c h s hn;have h2:=Y2z h hn l;rw [X6n,List.length_cons];have h3:((l.length + 1:Nat):Int) = (l.length:Int) + 1:=by omega
   rw [h3,Int.add_mul];omega
def X8w (t:Tree):Int:=X6n t.Q0b t.size (t.sets false)
def X2s (t:Tree):Ratio:=if t.err = 0 then lowest (X8w t) (Q5n 16 t.size) else ⟨0,0⟩
set_option maxRecDepth 100000 in
set_option maxHeartbeats 2000000 in
theorem Y6p (w:World) (v:Value) (t:Tree) (ht:IsTree w v t) (hT:Tab w) :
    Calls Tryz.prog 47 #[v] w fun e w'=>e = .returned (.tuple #[.agg (encR (X2s t)),.int .i64 t.err]) ∧ Ext w w':=by
 obtain ⟨a,b,c,rfl,h3⟩:=ht;obtain ⟨A,capa,rfl,hl1,hcap1,_⟩:=h3.basics.opened;obtain ⟨B,capb,rfl,hl2,hcap2,_⟩:=h3.causes.opened;obtain ⟨G,capg,rfl,hl3,hcap3,_⟩:=h3.gates.opened;have HT0:=Lib.hid h3;clear h3;have HTAB:=Lib.hid hT;clear hT;go_enter Tryz.func47,Tryz.ntmps47;go_wp2_with fail;change Calls _ _ _ ((w.alloc (.cells #[.slice A t.basics.length capa,.slice B t.causes.length capb,.slice G t.gates.length capg] 37)).alloc (.cells #[.int .i64 0,.int .i64 0] 59)) _;have k0:=Blk.made w 37 #[.slice A t.basics.length capa,.slice B t.causes.length capb,.slice G t.gates.length capg];have x0:=Ext.box w (.cells #[.slice A t.basics.length capa,.slice B t.causes.length capb,.slice G t.gates.length capg] 37);have es0:(w.alloc (.cells #[.slice A t.basics.length capa,.slice B t.causes.length capb,.slice G t.gates.length capg] 37)).heap.size = w.heap.size + 1:=by simp
 obtain ⟨X0,hX0⟩:∃ X,w.alloc (.cells #[.slice A t.basics.length capa,.slice B t.causes.length capb,.slice G t.gates.length capg] 37) = X:=⟨_,rfl⟩;rw [hX0] at k0 x0 es0 ⊢;clear hX0;have k1:=Blk.made X0 59 #[.int .i64 0,.int .i64 0];have x1:=Ext.box X0 (.cells #[.int .i64 0,.int .i64 0] 59);have es1:(X0.alloc (.cells #[.int .i64 0,.int .i64 0] 59)).heap.size = X0.heap.size + 1:=by simp
 obtain ⟨X1,hX1⟩:∃ X,X0.alloc (.cells #[.int .i64 0,.int .i64 0] 59) = X:=⟨_,rfl⟩;rw [hX1] at k1 x1 es1 ⊢;clear hX1;replace k0:=k0.ext x1;have e0:X0.heap.size = w.heap.size + 1:=by omega
 have e1:X1.heap.size = w.heap.size + 1 + 1:=by omega
 rw [e0] at k1;have HXW:Hid (Ext w X1):=by exact (Ext.trans (x0) x1:Ext w X1)
 have eW:X1.heap.size = w.heap.size + 1 + 1:=e1;clear x0 es0 e0 x1 es1 e1;obtain ⟨W,hWW⟩:∃ W,X1 = W:=⟨_,rfl⟩;rw [hWW] at HXW eW ⊢ k0 k1;clear hWW;have HT:=Lib.hid (HT0.out.ext HXW.out);refine (Q2j _ _ t ⟨_,_,_,rfl,HT.out⟩).mono ?_;rintro e w1 ⟨rfl,hx1⟩;have kt:=k0.ext hx1;have c0:=kt.cell 0;have c1:=kt.cell 1;have c2:=kt.cell 2;simp only [List.getElem?_toArray,List.getElem?_cons_zero,List.getElem?_cons_succ] at c0 c1 c2;have HXX:=Lib.hid (HXW.out.trans hx1);have HX1:=Lib.hid hx1;clear kt hx1;have hbr:=k1.ext HX1.out;clear k0 k1
 by_cases he:t.err = 0
 · have HR:Hid (X2s t = lowest (X8w t) (Q5n 16 t.size)):=by exact (by unfold X2s; rw [if_pos he]:X2s t = lowest (X8w t) (Q5n 16 t.size))
   have hV:=Valid.of he;have HV:=Lib.hid hV;have HE0:=Lib.hid he;have hsz:=hV.size;have hne:(t.err != 0) = false:=by simp [he]
   clear he hV;go_wp2_with fail;refine (Q3o _ _ t HV.out ⟨_,_,_,rfl,HT.out.ext HX1.out⟩).mono ?_;rintro e w2 ⟨fv,gv,rfl,hn,hx2⟩;obtain ⟨A1,cap1,rfl,_,_,_⟩:=hn.fails.opened;obtain ⟨A2,cap2,rfl,_,_,_⟩:=hn.gates.opened;rw [Q2o] at hn ⊢;have HN:=Lib.hid hn;have HX2:=Lib.hid hx2;clear hn hx2 c0 c1 c2;replace hbr:=hbr.ext HX2.out;have hbl:=hbr.lt;go_wp2_with (first | (refine Q0j rfl _ 121 rfl Tryz.Q1s Tryz.Q0r rfl hb9 rfl ?_) | (refine Q0d rfl _ _ 121 rfl Tryz.Q0r rfl rfl (Blk.made _ _ _) rfl rfl ?_ ?_; (focus (intro u hu; simp [outA] at hu; rcases hu with rfl | rfl | rfl | rfl | rfl | rfl | rfl | rfl | rfl | rfl | rfl | rfl | rfl | rfl | rfl | rfl <;> rfl)); intro w9 hb9 hl9 ho9) | fail)
   have hx9:Ext w2 w9:=Below.trans (Ext.box w2 _) (hl9 _ (Nat.le_refl _));have HXX9:Hid (Ext w w9):=by exact (HXX.out.trans HX2.out).trans hx9
   have HN9:=Lib.hid (HN.out.ext hx9);replace hbr:=hbr.ext hx9;refine (Q9n _ _ _ t t.Q0b 69 (noV t t.Q0b (.slice A1 t.size cap1) (.slice A2 t.gates.length cap2)) (fun s=>t.fails (evN s)) HV.out HN9.out (HTAB.out.ext HXX9.out) (enters_of Tryz.func69 (by kernel_rfl) rfl) (fun W s hx hs=>Q7x W _ _ t t.Q0b s HV.out hs (HN9.out.ext hx))).mono ?_
   rintro e w3 ⟨x,ll,rfl,hii,hp,hso,hx3⟩;have hll:=X5g (p:=false) hsz (fun s hs=>Y9g hsz hs) hp hso;have hlen:ll.length ≤ 4096:=by
    have h1:=hp.length_eq;have h2:=X8l (fun s=>t.fails (evN s)) t.size (List.finRange (2 ^ t.size));have h3:(2:Nat) ^ t.size ≤ 2 ^ 12:=Nat.pow_le_pow_right (by omega) hsz
    rw [List.length_finRange] at h2;omega
   have HB3:Hid (Blk w3 w2.heap.size 121 (outA t.size (.slice A1 t.size cap1) t.Q0b t.basics.length (.slice A2 t.gates.length cap2))):=by exact hb9.ext hx3
   have HXX3:=Lib.hid (HXX9.out.trans hx3);have HBR:=Lib.hid (hbr.ext hx3);have HLL:Hid (ll = t.sets false):=Lib.hid hll;have HSM:=Lib.hid HV.out.small;have HCL:=Lib.hid (Q4v t);obtain ⟨Am,capm,rfl,_,_,hcc⟩:=hii.opened;have HCC:=Lib.hid hcc;have s0:=HB3.out.cell 0;simp only [outA,List.getElem?_toArray,List.getElem?_cons_zero] at s0;clear hp hso hii hl9 ho9 hb9 hx9 hbr hll hcc;go_wp2
   go_loop [6,24] (fun o i=>∃ (k:Nat),k ≤ ll.length ∧ i = .int .i64 k ∧ o = .int .i64 (X6n t.Q0b t.size (ll.take k))) (fun _ i=>ll.length - (intOf i).toNat)
   case atStart=>exact ⟨0,Nat.zero_le _,rfl,rfl⟩
   case round =>
    obtain ⟨k,hk,rfl,rfl⟩:=hrel
    by_cases hlt:k < ll.length
    · obtain ⟨b,off,mv,rfl,hbw,hcell,hm⟩:=HCC.out k hlt
      have HTK:Hid (X6n t.Q0b t.size (ll.take (k + 1)) = X6n t.Q0b t.size (ll.take k) + Q3z t.Q0b (ll.getD k []) t.size):=by exact (by rw [List.take_succ_eq_append_getElem hlt,Y1a]; simp [hlt]:X6n t.Q0b t.size (ll.take (k + 1)) = X6n t.Q0b t.size (ll.take k) + Q3z t.Q0b (ll.getD k []) t.size)
      have hb0:=Y2z HSM.out (n:=t.size) (by rw [HCL.out]; exact Nat.le_refl _) (ll.take k)
      rw [List.length_take,Nat.min_eq_left hk] at hb0;obtain ⟨s,hs⟩:∃ s,ll.getD k [] = s:=⟨_,rfl⟩;rw [hs] at HTK hm;obtain ⟨S,hS⟩:∃ S,X6n t.Q0b t.size (ll.take k) = S:=⟨_,rfl⟩;rw [hS] at HTK hb0 ⊢;have hbt:=X4c HSM.out s (m:=t.size) (by rw [HCL.out]; exact Nat.le_refl _)
      obtain ⟨Aq,capq,rfl,_,_,_⟩:=hm.opened;have HM:=Lib.hid hm;clear hs hS hm;go_wp2
      go_loop [9,31] (fun o i=>∃ (m:Nat),m ≤ t.size ∧ i = .int .i64 m ∧ o = .int .i64 (Q3z t.Q0b s m)) (fun _ i=>t.size - (intOf i).toNat)
      case atStart=>exact ⟨0,Nat.zero_le _,rfl,rfl⟩
      case round =>
       obtain ⟨m,hm,rfl,rfl⟩:=hrel
       by_cases hmt:m < t.size
       · have n0:=HB3.out.cell (2 + m)
         rw [X8o _ _ _ _ _ (by omega)] at n0
         have hp:=X4c HSM.out s (m:=m) (by rw [HCL.out]; exact hm)
         have hp1:=X4c HSM.out s (m:=m + 1) (by rw [HCL.out]; omega)
         have hix:=HSM.out.ix (j:=m) (by rw [HCL.out]; exact hmt)
         have HST:Hid (Q3z t.Q0b s (m + 1) = Q3z t.Q0b s m * if has s m then ix t.Q0b m else 16):=by exact (rfl:Q3z t.Q0b s (m + 1) = _)
         obtain ⟨p,hpe⟩:∃ p,Q3z t.Q0b s m = p:=⟨_,rfl⟩;obtain ⟨y,hye⟩:∃ y,ix t.Q0b m = y:=⟨_,rfl⟩;rw [hpe,hye] at HST;rw [hye] at n0 hix;rw [HST.out] at hp1;rw [hpe] at hp ⊢;have hm12:m < 12:=by omega
         have hmI:(m:Int) < 12:=by omega
         have HCT:=Lib.hid (X1h w3 _ s m HM.out);clear hpe hye;cases hb:has s m with
         | true =>
           rw [hb] at HST hp1 HCT;simp only [if_true] at HST hp1;have HP1:=Lib.hid hp1;have hw:IntKind.i64.wrap (p * y) = p * y:=Q6d _ HP1.out.1 (by have:=HP1.out.2; omega)
           clear hp1 hb;go_wp2_with (go_at_call 97; refine HCT.out.mono ?_; rintro e w' ⟨rfl,rfl⟩);go_round
           case rel=>exact ⟨m + 1,by omega,by go_num,by rw [HST.out]⟩
           case measure=>simp [intOf]; omega
         | false =>
           rw [hb] at HST hp1 HCT;simp only [Bool.false_eq_true,if_false] at HST hp1;have HP1:=Lib.hid hp1;have hw:IntKind.i64.wrap (p * 16) = p * 16:=Q6d _ HP1.out.1 (by have:=HP1.out.2; omega)
           clear hp1 hb;go_wp2_with (go_at_call 97; refine HCT.out.mono ?_; rintro e w' ⟨rfl,rfl⟩);go_round
           case rel=>exact ⟨m + 1,by omega,by go_num,by rw [HST.out]⟩
           case measure=>simp [intOf]; omega
       · have e:m = t.size:=by omega
         subst e;have hw:IntKind.i64.wrap (S + Q3z t.Q0b s t.size) = S + Q3z t.Q0b s t.size:=Q6d _ (by omega) (by omega)
         go_wp2;go_round
         case rel=>exact ⟨k + 1,by omega,by go_num,by rw [HTK.out]⟩
         case measure=>simp [intOf]; omega
    · have HS:Hid (X6n t.Q0b t.size (ll.take k) = X8w t):=by exact (by rw [List.take_of_length_le (by omega),HLL.out]; rfl:X6n t.Q0b t.size (ll.take k) = X8w t)
      have hb0:=Y2z HSM.out (n:=t.size) (by rw [HCL.out]; exact Nat.le_refl _) (ll.take k)
      rw [List.length_take,Nat.min_eq_left hk] at hb0;have hpb:=X4s hsz;obtain ⟨d,hd⟩:∃ d,Q5n 16 t.size = d:=⟨_,rfl⟩;obtain ⟨S,hS⟩:∃ S,X6n t.Q0b t.size (ll.take k) = S:=⟨_,rfl⟩;rw [hS] at HS hb0 ⊢;rw [hd] at HR hpb;have HP:Hid (∀ w',Calls Tryz.prog 101 #[noV t t.Q0b (.slice A1 t.size cap1) (.slice A2 t.gates.length cap2)] w' fun e w''=>e = .returned (.int .i64 d) ∧ Ext w' w''):=by
       exact (by intro w'; rw [← hd]; exact X0x w' t t.Q0b A1 A2 _ _ _ _ hsz:∀ w',Calls Tryz.prog 101 #[noV t t.Q0b (.slice A1 t.size cap1) (.slice A2 t.gates.length cap2)] w' fun e w''=>e = .returned (.int .i64 d) ∧ Ext w' w'')
      have hS2:S ≤ 4611686018427387904:=by omega
      have hS1:=hb0.1;clear hd hS hb0;go_wp2_with (first | (refine Q0j rfl _ _ rfl Tryz.Q1s Tryz.Q0r rfl HB3.out rfl ?_) | (go_at_call 101; refine (HP.out _).mono ?_; rintro e w4 ⟨rfl,hx4⟩) | (go_at_call 99; refine (Q7z _ S d hS1 hS2 (by omega) (by omega)).mono ?_; rintro e w5 ⟨rfl,hx5⟩) | (refine Q0d rfl _ _ _ rfl Tryz.Q1v rfl rfl ((HBR.out.ext hx4).ext hx5) rfl rfl ?_ ?_; (focus (exact Q5t _ _)); intro w8 hb8 hl8 ho8))
      refine bodyPost_ret (Q0o Tryz.results47 rfl hb8 Tryz.Q5e Tryz.Q1v rfl) rfl ?_;exact ⟨by rw [HR.out,HE0.out,← HS.out]; rfl,Below.trans ((HXX3.out.trans hx4).trans hx5) (hl8 _ (by omega))⟩
 · have HR:Hid (X2s t = ⟨0,0⟩):=by exact (by unfold X2s; rw [if_neg he]:X2s t = ⟨0,0⟩)
   have hne:(t.err != 0) = true:=by simp [he]
   clear he;go_wp2_with (refine Q0d rfl _ _ _ rfl Tryz.Q1v rfl rfl hbr rfl rfl ?_ ?_; (focus (exact Q7e ⟨0,0⟩)); intro w8 hb8 hl8 ho8);refine bodyPost_ret (Q0o Tryz.results47 rfl hb8 Tryz.Q5e Tryz.Q1v rfl) rfl ?_;exact ⟨by rw [HR.out]; rfl,Below.trans HXX.out (hl8 _ (by omega))⟩
end Go.Proofs
