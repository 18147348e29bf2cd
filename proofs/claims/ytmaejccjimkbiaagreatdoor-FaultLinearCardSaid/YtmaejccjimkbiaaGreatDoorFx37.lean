/- Contracts: mapped(numbers, strconv.Itoa); line. Contract: line. Contracts: Print's closure, mapped(basics, it). Laws ahead of Print: an append that grows, the parts of a valid tree. -/
import Derived.Test.YtmaejccjimkbiaaGreatDoorFx36
set_option linter.unusedVariables false
set_option linter.unusedSimpArgs false
set_option linter.constructorNameAsVariable false
namespace Go.Proofs
open Go.RowKit Go.Tw Go.Flow
theorem Tryz.Y2o:(Tryz.prog.info? 9).map (fun i=>(i.zero,i.size,i.bytes)) = some (some (.string emp),1,16):=by kernel_rfl
def Q6k (x:Int):ByteArray:=⟨(Lib.decDigits x.toNat).toArray⟩
theorem Y7g (w:World) (x:Int) (h0:0 ≤ x) (h1:x < 100):Calls Tryz.prog 152 #[.int .i64 x] w fun e w'=>e = .returned (.string (Q6k x)) ∧ w' = w:=by
 obtain ⟨n,rfl⟩:∃ n:Nat,x = n:=⟨x.toNat,by omega⟩
 exact Tryz.strconv_Itoa_small n (by omega) w
theorem Y8y (l:List Int) {k:Nat} (hk:k < l.length):(l.map Q6k).take k ++ [Q6k (ix l k)] = (l.map Q6k).take (k + 1):=by
 rw [List.take_succ_eq_append_getElem (by simpa using hk),Q8m hk]
 simp
set_option maxRecDepth 100000 in
set_option maxHeartbeats 1000000 in
theorem Y2v (w:World) (v:Value) (l:List Int) (hv:Q0f w v l) (hle:l.length ≤ 4096) (hm:∀ x ∈ l,0 ≤ x ∧ x < 100) :
    Calls Tryz.prog 151 #[v,.func (.func 152) #[] #[]] w fun e w'=>∃ x,e = .returned x ∧ Q0q w' w.heap.size 9 .string x (l.map Q6k) ∧ Ext w w':=by
 obtain ⟨i0,hi,hz0,hz1,hz2⟩:=info_parts Tryz.Y2o;obtain ⟨A,cap,rfl,hl,hcap,hc⟩:=hv.opened;have HC:=Lib.hid hc;have HM:=Lib.hid hm;clear hv hc hm;go_enter Tryz.func151,Tryz.ntmps151;go_wp2
 go_loopw [5,10] (fun o i wr=>∃ (k:Nat),k ≤ l.length ∧ i = .int .i64 k ∧ Q0q wr w.heap.size 9 .string o ((l.map Q6k).take k) ∧ Ext w wr) (fun _ i _=>l.length - (intOf i).toNat)
 case atStart=>exact ⟨0,Nat.zero_le _,rfl,Q0q.nil _ _ _ _,Ext.refl _⟩
 case round =>
  obtain ⟨k,hk,rfl,hown,hx⟩:=hrel;have hlen:((l.map Q6k).take k).length = k:=by rw [List.length_take,List.length_map]; omega
  by_cases hlt:k < l.length
  · obtain ⟨b,off,rfl,hcell⟩:=HC.out k hlt
    have HTK:=Lib.hid (Y8y l hlt);have hmm:=HM.out (ix l k) (by rw [Q8m hlt]; exact List.getElem_mem hlt)
    obtain ⟨s,hs⟩:∃ s,ix l k = s:=⟨_,rfl⟩;rw [hs] at hcell hmm HTK;have HMM:=Lib.hid hmm;replace hcell:=hx.cell hcell;have hll:((l.map Q6k).take k).length ≤ 4096:=by omega
    obtain ⟨is,his⟩:∃ x,Q6k s = x:=⟨_,rfl⟩;rw [his] at HTK;have HIT:Hid (∀ w,Calls Tryz.prog 152 #[.int .i64 s] w fun e w'=>e = .returned (.string is) ∧ w' = w):=by exact (fun w=>by rw [← his]; exact Y7g w s HMM.out.1 HMM.out.2:∀ w,Calls Tryz.prog 152 #[.int .i64 s] w fun e w'=>e = .returned (.string is) ∧ w' = w)
    clear hs hmm hlen his;go_wp2_with (first | (go_at_call 152; refine (HIT.out _).mono ?_; rintro e w9 ⟨rfl,rfl⟩) | (at_builtin; refine wpList_append_own _ rfl _ _ 105 rfl (w.heap.size) 9 i0 (.string emp) 1 16 Tryz.underlying105 hi hz0 hz1 hz2 rfl (by decide) _ _ _ rfl (World.ownsRow.alloc hown _) ⟨w9.heap.size,0,none⟩ 1 1 [.string is] rfl rfl ?_ ?_ ?_ ?_ ?_ ?_; exact Q9g _ _ _; (focus (simp [Value.oneCell'])); (focus (unfold maxLen; omega)); (focus omega); (focus (have:=hx.size; simp at this ⊢; omega)); intro v' w1 hown' hgrow _))
    have hx':=Q5h hx hown (Nat.le_refl _) hgrow;go_wp2;go_roundw
    case rel=>exact ⟨k + 1,by omega,by go_num,by rw [← HTK.out]; exact Q0q.snoc hown',hx'⟩
    case measure=>simp [intOf]; omega
  · have HE:Hid ((l.map Q6k).take k = l.map Q6k):=by exact (by rw [List.take_of_length_le (by rw [List.length_map]; omega)]:(l.map Q6k).take k = l.map Q6k)
    rw [HE.out] at hown;have HOWN:=Lib.hid hown;clear hown hlen;go_wp2;go_ret;exact ⟨_,rfl,HOWN.out,hx⟩
end Go.Proofs
namespace Go.Proofs
open Go.RowKit Go.Tw Go.Flow
def X3k (xs:List ByteArray) (sep:ByteArray):ByteArray:=⟨(Lib.join (xs.map (·.data.toList)) sep.data.toList).toArray⟩
def spS:ByteArray:=⟨#[32]⟩
def nlS:ByteArray:=⟨#[10]⟩
def Q6f (a b:ByteArray) (l:List Int):List ByteArray:=a :: b :: l.map Q6k
def lineS (a b:ByteArray) (l:List Int):ByteArray:=X3k (Q6f a b l) spS ++ nlS
theorem Y3a {B:Nat}:∀ {xs:List ByteArray},(∀ x ∈ xs,x.size ≤ B) → Lib.lens (xs.map (·.data.toList)) ≤ B * xs.length
 | [],_=>by simp [Lib.lens]
 | x :: xs,h=>by
   have h1:=Y3a (xs:=xs) fun y hy=>h y (List.mem_cons_of_mem _ hy);have h2:=h x (List.mem_cons_self ..);have h3:x.data.toList.length = x.size:=Array.length_toList;simp only [Lib.lens,List.map_cons,List.sum_cons,List.length_cons,Nat.mul_succ] at h1 ⊢;omega
theorem X7d {x:Int} (h0:0 ≤ x) (h1:x < 100):(Q6k x).size ≤ 2:=by
 have h:(Q6k x).size = (Lib.decDigits x.toNat).length:=by simp [Q6k,ByteArray.size]
 rw [h,Lib.decDigits_length];have h2:x.toNat < 100:=by omega
 rw [Lib.nDigits]
 split
 · omega
 · rw [Lib.nDigits,dif_pos (by omega)]
   omega
theorem Y3r (w:World) (base:Nat) (v:Value) (xs:List ByteArray) (sep:ByteArray) (hv:Q0q w base 9 .string v xs) (hl:xs.length ≤ 4096) (hne:xs ≠ []) (hs:∀ x ∈ xs,x.size ≤ 5000000) (hsep:sep.size ≤ 16) :
    Calls Tryz.prog 113 #[v,.string sep] w fun e w'=>e = .returned (.string (X3k xs sep)) ∧ Ext w w':=by
 rcases hv.cells2 with ⟨_,h⟩ | ⟨g,c,rfl,hcap,hb,hg,hc⟩
 · exact absurd h hne
 · refine Tryz.strings_Join g 0 c xs sep w (fun j x hx=>?_) hg (by omega) hcap ?_
   · obtain ⟨hj,rfl⟩:=List.getElem?_eq_some_iff.1 hx
     exact hc j hj
   · cases xs with
     | nil=>exact absurd rfl hne
     | cons x r =>
       have h1:=Y3a hs;have h2:sep.data.toList.length = sep.size:=Array.length_toList;have h4:sep.size * r.length ≤ 16 * 4096:=Nat.mul_le_mul hsep (by rw [List.length_cons] at hl; omega)
       have h5:5000000 * (x :: r).length ≤ 5000000 * 4096:=Nat.mul_le_mul_left _ hl;rw [List.map_cons,Lib.join_length,List.length_map,h2];rw [List.map_cons] at h1;omega
theorem X2l {xs:List ByteArray} {sep:ByteArray} {B:Nat} (hl:xs.length ≤ 4096) (hs:∀ x ∈ xs,x.size ≤ B) (hsep:sep.size ≤ 16):(X3k xs sep).size ≤ 65536 + B * 4096:=by
 have h0:(X3k xs sep).size = (Lib.join (xs.map (·.data.toList)) sep.data.toList).length:=by simp [X3k,ByteArray.size]
 rw [h0];cases xs with
 | nil=>simp [Lib.join_nil]
 | cons x r =>
   have h1:=Y3a hs;have h2:sep.data.toList.length = sep.size:=Array.length_toList;have h4:sep.size * r.length ≤ 16 * 4096:=Nat.mul_le_mul hsep (by rw [List.length_cons] at hl; omega)
   have h5:B * (x :: r).length ≤ B * 4096:=Nat.mul_le_mul_left _ hl;rw [List.map_cons,Lib.join_length,List.length_map,h2];rw [List.map_cons] at h1;omega
theorem Y5j {a b:ByteArray} {l:List Int} (ha:a.size ≤ 1000) (hb:b.size ≤ 1000) (hm:∀ x ∈ l,0 ≤ x ∧ x < 100):∀ x ∈ Q6f a b l,x.size ≤ 1000:=by
 intro x hx
 rcases List.mem_cons.1 hx with rfl | hx
 · exact ha
 · rcases List.mem_cons.1 hx with rfl | hx
   · exact hb
   · obtain ⟨y,hy,rfl⟩:=List.mem_map.1 hx
     have h:=hm y hy;have:=X7d h.1 h.2;omega
theorem X2m {a b:ByteArray} {l:List Int} (hl:l.length ≤ 1000) (ha:a.size ≤ 1000) (hb:b.size ≤ 1000) (hm:∀ x ∈ l,0 ≤ x ∧ x < 100):(lineS a b l).size ≤ 5000000:=by
 have h1:=X2l (xs:=Q6f a b l) (sep:=spS) (by simp [Q6f]; omega) (Y5j ha hb hm) (by decide)
 have h2:(lineS a b l).size = (X3k (Q6f a b l) spS).size + 1:=by unfold lineS; rw [ByteArray.size_append]; rfl
 omega
theorem Z0n {w:World} {T:TypeId} {l:List ByteArray} (hl:l.length ≤ 1000):Q0q (w.alloc (.cells (l.map Value.string).toArray T)) w.heap.size T .string (.slice (some ⟨w.heap.size,0,none⟩) l.length l.length) l :=
 ⟨by simp,.inr ⟨w.heap.size,l.length,(l.map Value.string).toArray,rfl,Nat.le_refl _,heap_alloc_new w _,Nat.le_refl _,by unfold maxLen; omega,by simp,by rw [Nat.mul_one,List.take_of_length_le (by simp)]⟩⟩
set_option maxRecDepth 100000 in
set_option maxHeartbeats 1000000 in
theorem X7q (w:World) (a b:ByteArray) (v:Value) (l:List Int) (hv:Q0f w v l) (hle:l.length ≤ 1000) (hne:l ≠ []) (hm:∀ x ∈ l,0 ≤ x ∧ x < 100) (ha:a.size ≤ 1000) (hb:b.size ≤ 1000) :
    Calls Tryz.prog 115 #[.string a,.string b,v] w fun e w'=>e = .returned (.string (lineS a b l)) ∧ Ext w w':=by
 obtain ⟨i0,hi,hz0,hz1,hz2⟩:=info_parts Tryz.Y2o;obtain ⟨A,cap,rfl,hl,hcap,hc⟩:=hv.opened;have HV:=Lib.hid (hv.ext (Ext.box w (.cells #[.string a,.string b] 9)));have HM:=Lib.hid hm;have HN:=Lib.hid hne;clear hv hc hm hne;go_enter Tryz.func115,Tryz.ntmps115;go_wp2_with fail;refine (Y2v _ _ l HV.out (by omega) HM.out).mono ?_
 rintro e w3 ⟨u,rfl,hu,hx3⟩;have hown:Q0q w3 w.heap.size 9 .string (.slice (some ⟨w.heap.size,0,none⟩) 2 2) [a,b]:=(Z0n (w:=w) (l:=[a,b]) (by simp)).below hx3
 have HX3:=Lib.hid ((Ext.box w (.cells #[.string a,.string b] 9)).trans hx3)
 rcases hu.cells2 with ⟨_,h⟩ | ⟨g,c,rfl,hcap2,hbb,hg,hc⟩
 · exact absurd (List.map_eq_nil_iff.1 h) HN.out
 · have hlm:(l.map Q6k).length = l.length:=List.length_map _
   have HC:=Lib.hid hc;have hlen2:((l.map Q6k).map Value.string).length = l.length * 1:=by simp
   have HL2:=Lib.hid hlen2;have HSRC:Hid (∀ j u,((l.map Q6k).map Value.string)[j]? = some u → w3.cell? ((⟨g,0,none⟩:Addr).add j) = some u):=by
    exact (by
     intro j u hj;rw [List.getElem?_map] at hj;obtain ⟨y,hy,rfl⟩:=Option.map_eq_some_iff.1 hj;obtain ⟨hjl,rfl⟩:=List.getElem?_eq_some_iff.1 hy;rw [addr_add];exact HC.out j hjl:∀ j u,((l.map Q6k).map Value.string)[j]? = some u → w3.cell? ((⟨g,0,none⟩:Addr).add j) = some u)
   have HONE:Hid (∀ u ∈ (l.map Q6k).map Value.string,u.oneCell' = true):=by
    exact (by intro u hu; obtain ⟨y,_,rfl⟩:=List.mem_map.1 hu; rfl:∀ u ∈ (l.map Q6k).map Value.string,u.oneCell' = true)
   have hws:w.heap.size ≤ w3.heap.size:=HX3.out.size;clear hc hlen2 hu;go_wp2_with (at_builtin; refine wpList_append_own _ rfl _ _ 105 rfl (w.heap.size) 9 i0 (.string emp) 1 16 Tryz.underlying105 hi hz0 hz1 hz2 rfl (by decide) _ _ _ rfl hown ⟨g,0,none⟩ l.length c ((l.map Q6k).map Value.string) rfl HL2.out HSRC.out HONE.out ?_ ?_ ?_ ?_; (focus (unfold maxLen; simp; omega)); (focus (simp; omega)); (focus exact hws); intro v' w4 hown' hgrow _; refine halted ?_)
   have hx4:Ext w w4:=Below.trans HX3.out (below_grown hown hgrow (Nat.le_refl _) hws);have hl3:(Q6f a b l).length = l.length + 2:=by simp [Q6f]
   have hown2:Q0q w4 w.heap.size 9 .string v' (Q6f a b l):=by
    unfold Q0q;rw [hl3,show l.length + 2 = 2 + l.length from Nat.add_comm _ _]
    exact hown'
   have hsz:∀ x ∈ Q6f a b l,x.size ≤ 5000000:=by
    intro x hx
    rcases List.mem_cons.1 hx with rfl | hx
    · omega
    · rcases List.mem_cons.1 hx with rfl | hx
      · omega
      · obtain ⟨y,hy,rfl⟩:=List.mem_map.1 hx
        have h:=HM.out y hy;have:=X7d h.1 h.2;omega
   have HJ:Hid (Calls Tryz.prog 113 #[v',.string ⟨#[32]⟩] w4 fun e w'=>e = .returned (.string (X3k (Q6f a b l) spS)) ∧ Ext w4 w'):=by
    exact (Y3r w4 w.heap.size v' (Q6f a b l) spS hown2 (by omega) (by simp [Q6f]) hsz (by decide):Calls Tryz.prog 113 #[v',.string ⟨#[32]⟩] w4 fun e w'=>e = .returned (.string (X3k (Q6f a b l) spS)) ∧ Ext w4 w')
   have HX4:=Lib.hid hx4;have hjs:=X2l (xs:=Q6f a b l) (sep:=spS) (B:=5000000) (by omega) hsz (by decide)
   have HLN:Hid (lineS a b l = X3k (Q6f a b l) spS ++ nlS):=by exact (rfl:lineS a b l = X3k (Q6f a b l) spS ++ nlS)
   clear hown' hgrow hx4 hl3 hown2 hsz hown;unfold Q3f;go_wp2_with fail;refine HJ.out.mono ?_;rintro e w5 ⟨rfl,hx5⟩;generalize X3k (Q6f a b l) spS = js at HLN hjs ⊢;have hjs2:js.size + 1 ≤ 9223372036854775807:=by omega
   have hjs3:js.size < 9223372036854775807:=by omega
   go_wp2;go_ret;exact ⟨by rw [HLN.out]; rfl,HX4.out.trans hx5⟩
end Go.Proofs
namespace Go.Proofs
open Go.RowKit Go.Tw Go.Flow
def X6l:ByteArray:=⟨#[98,97,115,105,99]⟩
def Y0g:ByteArray:=⟨#[99,97,117,115,101]⟩
def Y7q:ByteArray:=⟨#[103,97,116,101]⟩
def X0m (b:Basic):ByteArray:=lineS X6l b.name [b.chance]
theorem Y6u (w:World) (nm:ByteArray) (ch:Int) (h0:0 ≤ ch) (h1:ch < 100) (hn:nm.size ≤ 1000) :
    Calls Tryz.prog 114 #[.agg #[.string nm,.int .i64 ch]] w fun e w'=>e = .returned (.string (lineS X6l nm [ch])) ∧ Ext w w':=by
 have hk:=Blk.made w 125 #[.string nm,.int .i64 ch];have hx1:=Ext.box w (.cells #[.string nm,.int .i64 ch] 125);have c0:=hk.cell 0;have c1:=hk.cell 1;simp only [List.getElem?_toArray,List.getElem?_cons_zero,List.getElem?_cons_succ] at c0 c1;clear hk;go_enter Tryz.func114,Tryz.ntmps114;go_wp2_with fail;have hi:=Q2m (w:=w.alloc (.cells #[.string nm,.int .i64 ch] 125)) (T:=3) (l:=[ch]) (by simp)
 have hs:(w.alloc (.cells #[.string nm,.int .i64 ch] 125)).heap.size = w.heap.size + 1:=by simp
 rw [hs] at hi;refine (X7q _ X6l nm _ [ch] hi (by simp) (by simp) (by intro x hx; rw [List.mem_singleton] at hx; rw [hx]; exact ⟨h0,h1⟩) (by decide) hn).mono ?_
 rintro e w5 ⟨rfl,hx5⟩;have hx:=(hx1.trans (Ext.box _ _)).trans hx5;obtain ⟨ls,hls⟩:∃ x,lineS X6l nm [ch] = x:=⟨_,rfl⟩;rw [hls];have HX:=Lib.hid hx;have HLS:=Lib.hid hls;clear hi hx5 c0 c1 hx1 hx hls;go_wp2;go_ret;exact ⟨by rw [HLS.out]; rfl,HX.out⟩
theorem Y9o (l:List Basic) {k:Nat} (hk:k < l.length):(l.map X0m).take k ++ [lineS X6l (bName l k) [Q1l l k]] = (l.map X0m).take (k + 1):=by
 rw [List.take_succ_eq_append_getElem (by simpa using hk)]
 unfold bName Q1l;rw [getD_at hk];simp [X0m]
set_option maxRecDepth 100000 in
set_option maxHeartbeats 1000000 in
theorem Y1p (w:World) (v:Value) (l:List Basic) (hv:Q3k w v l) (hle:l.length ≤ 1000) (hm:∀ k,k < l.length → 0 ≤ Q1l l k ∧ Q1l l k < 100 ∧ (bName l k).size ≤ 1000) :
    Calls Tryz.prog 104 #[v,.func (.func 114) #[] #[]] w fun e w'=>∃ x,e = .returned x ∧ Q0q w' w.heap.size 9 .string x (l.map X0m) ∧ Ext w w':=by
 obtain ⟨i0,hi,hz0,hz1,hz2⟩:=info_parts Tryz.Y2o;obtain ⟨A,cap,rfl,hl,hcap,hc⟩:=hv.opened;have HC:=Lib.hid hc;have HM:=Lib.hid hm;clear hv hc hm;go_enter Tryz.func104,Tryz.ntmps104;go_wp2
 go_loopw [5,10] (fun o i wr=>∃ (k:Nat),k ≤ l.length ∧ i = .int .i64 k ∧ Q0q wr w.heap.size 9 .string o ((l.map X0m).take k) ∧ Ext w wr) (fun _ i _=>l.length - (intOf i).toNat)
 case atStart=>exact ⟨0,Nat.zero_le _,rfl,Q0q.nil _ _ _ _,Ext.refl _⟩
 case round =>
  obtain ⟨k,hk,rfl,hown,hx⟩:=hrel;have hlen:((l.map X0m).take k).length = k:=by rw [List.length_take,List.length_map]; omega
  by_cases hlt:k < l.length
  · obtain ⟨b,off,rfl,hbw,e0,e1,hsh⟩:=HC.out k hlt
    have HTK:=Lib.hid (Y9o l hlt);have hmm:=HM.out k hlt;obtain ⟨nm,hnm⟩:∃ s,bName l k = s:=⟨_,rfl⟩;obtain ⟨ch,hch⟩:∃ s,Q1l l k = s:=⟨_,rfl⟩;rw [hnm] at e0 hmm HTK;rw [hch] at e1 hmm HTK;have HMM:=Lib.hid hmm;replace e0:=hx.cell e0;replace e1:=hx.cell e1;have hll:((l.map X0m).take k).length ≤ 4096:=by omega
    obtain ⟨is,his⟩:∃ x,lineS X6l nm [ch] = x:=⟨_,rfl⟩;rw [his] at HTK;have HIT:Hid (∀ w,Calls Tryz.prog 114 #[.agg #[.string nm,.int .i64 ch]] w fun e w'=>e = .returned (.string is) ∧ Ext w w'):=by exact (fun w=>by rw [← his]; exact Y6u w nm ch HMM.out.1 HMM.out.2.1 HMM.out.2.2:∀ w,Calls Tryz.prog 114 #[.agg #[.string nm,.int .i64 ch]] w fun e w'=>e = .returned (.string is) ∧ Ext w w')
    clear hmm hlen his hnm hch hsh;go_wp2_with fail;refine (HIT.out _).mono ?_;rintro e w9 ⟨rfl,hx9⟩;have hbx:=(Ext.box wr (.cells #[.string nm,.int .i64 ch] 125)).trans hx9;have hown2:=hown.below hbx;have hxx:=hx.trans hbx;clear e0 e1 hown hbx hx9;go_wp2_with (at_builtin; refine wpList_append_own _ rfl _ _ 105 rfl (w.heap.size) 9 i0 (.string emp) 1 16 Tryz.underlying105 hi hz0 hz1 hz2 rfl (by decide) _ _ _ rfl (World.ownsRow.alloc hown2 _) ⟨w9.heap.size,0,none⟩ 1 1 [.string is] rfl rfl ?_ ?_ ?_ ?_ ?_ ?_; exact Q9g _ _ _; (focus (simp [Value.oneCell'])); (focus (unfold maxLen; omega)); (focus omega); (focus (have:=hxx.size; simp at this ⊢; omega)); intro v' w1 hown' hgrow _)
    have hx':=Q5h hxx hown2 (Nat.le_refl _) hgrow;go_wp2;go_roundw
    case rel=>exact ⟨k + 1,by omega,by go_num,by rw [← HTK.out]; exact Q0q.snoc hown',hx'⟩
    case measure=>simp [intOf]; omega
  · have HE:Hid ((l.map X0m).take k = l.map X0m):=by exact (by rw [List.take_of_length_le (by rw [List.length_map]; omega)]:(l.map X0m).take k = l.map X0m)
    rw [HE.out] at hown;have HOWN:=Lib.hid hown;clear hown hlen;go_wp2;go_ret;exact ⟨_,rfl,HOWN.out,hx⟩
end Go.Proofs
namespace Go.Tw
open Go.RowKit Go.Flow
theorem Q7q {P:Program} {K:Value → World → Prop} {o:Oper} {a:Act} {w:World} (s x:Operand) (t:TypeId) (ho:o.op = .call { callee:=.builtin .append,args:=#[s,x],argTypes:=#[t,t] }) (e:TypeId) (i:TypeInfo) (z:Value) (bytes:Nat) (ht:P.underlying t = some (.slice e)) (hi:P.info? e = some i) (hz:i.zero = some z)
    (hsize:i.size = 1) (hby:i.bytes = bytes) (hzs:z.cells.size = 1) {b:Addr} {n cap:Nat} (hs:a.eval s = .slice (some b) n cap) (olds:List Value) (hlo:olds.length = n * 1) (holds:∀ j u,olds[j]? = some u → w.cell? (b.add j) = some u)
    {ad:Addr} {m c:Nat} (hx:a.eval x = .slice (some ad) m c) (news:List Value) (hl:news.length = m * 1) (hnews:∀ j u,news[j]? = some u → w.cell? (ad.add j) = some u) (hg:cap < n + m) (h63:n + m ≤ maxLen) (hbytes:(n + m) * bytes ≤ 140737488355328)
    (h:∀ v' w',w'.ownsRow w.heap.size e 1 v' (n + m) (olds ++ news) → w.grownBy w' none → K v' w'):gives P K ((execOp a.eval o).run P w):=by
 obtain ⟨v',w',hr,h2,h3⟩:=run_append_arg_grows (P:=P) (w:=w) t o.type e i z 1 bytes ht hi hz hsize hby hzs (by decide) b n cap olds hlo holds ad m c news hl hnews hg h63 hbytes
 unfold execOp;simp only [ho,resolve,invoke,builtin,Sem.run_bind,Sem.run_pure,Result.andThen_ok,List.map_toArray,List.map_cons,List.map_nil,hs,hx,hr];exact h v' w' h2 h3
end Go.Tw
namespace Go.Proofs
open Go.RowKit Go.Tw Go.Flow
def Y1o (w:World) (v:Value) (ch:Int):Prop:=∃ g,v = .slice (some ⟨g,0,none⟩) 1 1 ∧ w.cell? ⟨g,0,none⟩ = some (.int .i64 ch)
theorem Y1o.ext {w w':World} {v:Value} {ch:Int} (h:Y1o w v ch) (hx:Ext w w'):Y1o w' v ch:=let ⟨g,h1,h2⟩:=h; ⟨g,h1,hx.cell h2⟩
theorem Y1o.new (w:World) (T:TypeId) (ch:Int):Y1o (w.alloc (.cells #[.int .i64 ch] T)) (.slice (some ⟨w.heap.size,0,none⟩) 1 1) ch:=⟨_,rfl,(Blk.made w T #[.int .i64 ch]).cell 0⟩
theorem Y9a:∀ (l:List Int) (x n:Int),X5x (x :: l) = true → (∀ y ∈ x :: l,y < n) → ((x :: l).length:Int) ≤ n - x
 | [],x,n,_,h=>by have:=h x (by simp); simp; omega
 | y :: l,x,n,ha,h=>by
   rw [X5x,Bool.and_eq_true,decide_eq_true_eq] at ha;have:=Y9a l y n ha.2 fun z hz=>h z (List.mem_cons_of_mem _ hz);simp only [List.length_cons] at this ⊢;omega
theorem X9o {s:ByteArray} (h:Q2z s = 0):s.size ≤ 24:=by
 have hs:s.size = s.data.toList.length:=Array.length_toList.symm;have hb:nameB s = true:=by
  cases hq:nameB s with
  | true=>rfl
  | false=>unfold Q2z at h; rw [hq] at h; simp at h
 rw [hs];unfold nameB at hb;cases hl:s.data.toList with
 | nil=>simp
 | cons c l =>
   rw [hl] at hb;simp only [Bool.and_eq_true,decide_eq_true_eq] at hb;rw [List.length_cons];omega
theorem _root_.Go.Tw.Valid.cause {t:Tree} (h:Valid t) {k:Nat} (hk:k < t.causes.length):(0 ≤ Q1d t.causes k ∧ Q1d t.causes k < 100) ∧ Q0c t.causes k ≠ [] ∧ (Q0c t.causes k).length ≤ 12 ∧ (∀ x ∈ Q0c t.causes k,0 ≤ x ∧ x < 100) ∧ (cName t.causes k).size ≤ 24:=by
 have hs:=h.size;unfold Tree.size at hs;have he:=h.event (t.basics.length + k) (by unfold Tree.size; omega)
 have hc:=h.chance (i:=t.basics.length + k) (by unfold Tree.size; omega)
 unfold Tree.Q0u at he;rw [Q1k] at he;have h1:=X9o (he _ (List.mem_cons_self ..));have h2:=he (if t.basics.length + k < t.basics.length then 0 else Q2s (Q0c t.causes (t.basics.length + k - t.basics.length)) t.basics.length) (by simp)
 rw [if_neg (by omega),show t.basics.length + k - t.basics.length = k by omega] at h2
 unfold Tree.nameAt at h1;rw [if_neg (by omega),show t.basics.length + k - t.basics.length = k by omega] at h1
 unfold Tree.Q0y at hc;rw [if_neg (by omega),show t.basics.length + k - t.basics.length = k by omega] at hc
 obtain ⟨hne,hse⟩:=Q5z h2;obtain ⟨hr,ha⟩:=Q2n hse;refine ⟨⟨by omega,by omega⟩,hne,?_,fun x hx=>?_,h1⟩
 · cases hm:Q0c t.causes k with
   | nil=>simp
   | cons x l =>
     rw [hm] at ha hr;have:=Y9a l x t.basics.length ha fun y hy=>(hr y hy).2;have:=(hr x (by simp)).1
     omega
 · have:=hr x hx; omega
theorem _root_.Go.Tw.Valid.basic {t:Tree} (h:Valid t) {k:Nat} (hk:k < t.basics.length):0 ≤ Q1l t.basics k ∧ Q1l t.basics k < 100 ∧ (bName t.basics k).size ≤ 1000:=by
 have he:=h.event k (by unfold Tree.size; omega)
 have hc:=h.chance (i:=k) (by unfold Tree.size; omega)
 unfold Tree.Q0u at he;rw [Q1k] at he;have h1:=X9o (he _ (List.mem_cons_self ..));unfold Tree.nameAt at h1;rw [if_pos hk] at h1;unfold Tree.Q0y at hc;rw [if_pos hk] at hc;omega
theorem Y9n {s:ByteArray} (h:Q8s s = true):s.size ≤ 4:=by
 unfold Q8s at h
 by_cases h1:s = Q8z
 · rw [h1]; decide
 · by_cases h2:s = sOr
   · rw [h2]; decide
   · by_cases h3:s = Q5c
     · rw [h3]; decide
     · rw [Q5k h1,Q5k h2,Q5k h3] at h
       cases h
theorem _root_.Go.Tw.Valid.Z5c {t:Tree} (h:Valid t) {k:Nat} (hk:k < t.gates.length):(0 ≤ Q2x t.gates k ∧ Q2x t.gates k < 100) ∧ Q0l t.gates k ≠ [] ∧ (Q0l t.gates k).length ≤ 12 ∧ (∀ x ∈ Q0l t.gates k,0 ≤ x ∧ x < 100) ∧ (Q2c t.gates k).size ≤ 24:=by
 have h1:=Valid.need h hk;obtain ⟨hne,_⟩:=Q5z (h.inputs hk);have h2:=h.X3u hk;have h3:=Y9n (Valid.kind h hk);refine ⟨⟨by omega,by omega⟩,hne,h1.1,fun x hx=>?_,by omega⟩
 have:=h2.2 x hx;omega
def Q4q (t:Tree) (s:ByteArray):Nat → ByteArray
 | 0=>s
 | k + 1=>Q4q t s k ++ lineS Y0g (cName t.causes k) (Q1d t.causes k :: Q0c t.causes k)
def Q6o (t:Tree) (s:ByteArray):Nat → ByteArray
 | 0=>s
 | k + 1=>Q6o t s k ++ lineS Y7q (Q2c t.gates k) (Q2x t.gates k :: Q0l t.gates k)
def X6i (t:Tree):ByteArray:=X3k (t.basics.map X0m) emp
def X2r (t:Tree):ByteArray:=if t.err = 0 then Q6o t (Q4q t (X6i t) t.causes.length) t.gates.length else emp
end Go.Proofs
