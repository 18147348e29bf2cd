/- Contracts: States and Single of the program. Contracts: Cuts and Paths. Contract: Single. Contracts: probability, Chance. Loads of a part of a block. Contracts: the probability of the reference. Contracts: Chance. The region theorems with the frame under a name at every operation. -/
import Derived.Test.YtgopmebjbkdfgaaGreatDoorTx13
import Derived.Test.YtgopmebjbkdfgaaGreatDoorTx05
import Derived.Test.YtgopmebjbkdfgaaGreatDoorTx09
import Derived.Test.YtgopmebjbkdfgaaGreatDoorTx10
set_option maxRecDepth 1000000
set_option maxHeartbeats 64000000
set_option linter.unusedVariables false
set_option linter.unusedSimpArgs false
set_option linter.constructorNameAsVariable false
namespace Go.Proofs
open Go.RowKit Go.Tw Go.Flow
def X0v (t:Tree) (l:List Int):List Bool:=if Q0h t l = 0 then t.states (evL l) else []
theorem Z6s {l:List Bool} {k:Nat} (h:k < l.length):l.take (k + 1) = l.take k ++ [bx l k]:=by
 rw [List.take_succ_eq_append_getElem h]; simp [bx,h]
theorem Y3s (w:World) (v u:Value) (t:Tree) (l:List Int) (ht:IsTree w v t) (hl:Q0e w u l) :
    Calls Tryz.prog 33 #[v,u] w fun e w'=>∃ x,e = .returned (.tuple #[x,.int .i64 (Q0h t l)]) /\ Q5g w' x (X0v t l) /\ Ext w w':=by
 obtain ⟨i0,hi,hz0,hz1,hz2⟩:=info_parts Tryz.info4;obtain ⟨a,b,c,rfl,h3⟩:=ht;obtain ⟨A,capa,rfl,hl1,hcap1,_⟩:=h3.basics.opened;obtain ⟨B,capb,rfl,hl2,hcap2,_⟩:=h3.causes.opened;obtain ⟨G,capg,rfl,hl3,hcap3,_⟩:=h3.gates.opened;have hxW:=Ext.box w (.cells #[.slice A t.basics.length capa,.slice B t.causes.length capb,.slice G t.gates.length capg] 33);have k0:=Blk.made w 33 #[.slice A t.basics.length capa,.slice B t.causes.length capb,.slice G t.gates.length capg];have HT:=Lib.hid (h3.ext hxW);have HL:=Lib.hid (hl.ext hxW);have HX:=Lib.hid hxW;clear h3 hl hxW;go_enter Tryz.func33,Tryz.ntmps33;go_wp2_with fail;refine (Q5i _ _ _ t l ⟨_,_,_,rfl,HT.out⟩ HL.out).mono ?_;rintro e w1 ⟨rfl,hx1⟩;have k1:=k0.ext hx1;have c0:=k1.cell 0;have c1:=k1.cell 1;have c2:=k1.cell 2;simp only [Go.Tw.gA,Go.Tw.gB,Go.Tw.gC] at c0 c1 c2;have HXX:=Lib.hid (HX.out.trans hx1);have HX1:=Lib.hid hx1;have HK1:=Lib.hid k1;clear k0 k1 hx1
 by_cases he:Q0h t l = 0
 . have hz:=Q4g he
   have hs:=Q2x hz.2;have HV:=Lib.hid hz.1;have HSZ:=Lib.hid hs.1;have HR:Hid (X0v t l = t.states (evN (Q1n l))):=by
    exact (by unfold X0v; rw [if_pos he,Y5s (fun x hx=>(hs.1 x hx).1)]:X0v t l = t.states (evN (Q1n l)))
   have hne:(Q0h t l != 0) = false:=by simp [he]
   have HE0:=Lib.hid he;have hsz:=hz.1.size;have hng:=hz.1.ng';have hs1:0 < t.size:=by have:=hz.1.nb; unfold Tree.size; omega
   have hnb:t.basics.length <= 12:=by unfold Tree.size at hsz; omega
   have HS1:=Lib.hid hs1;clear he hz hs hs1;go_wp2_with fail;refine (Q3i _ _ t HV.out ⟨_,_,_,rfl,HT.out.ext HX1.out⟩).mono ?_;rintro e w2 ⟨fv,gv,rfl,hn,hx2⟩;have HN:=Lib.hid hn;have HX2:=Lib.hid hx2;clear hn hx2;go_wp2_with fail;refine (X1h _ _ l (HL.out.ext (HX1.out.trans HX2.out)) (fun x hx=>by have:=HSZ.out x hx; omega)).mono ?_
   rintro e w3 ⟨rfl,rfl⟩;go_wp2_with fail;refine (X5a _ _ _ t _ _ HV.out (Q9f HS1.out (fun x hx=>(HSZ.out x hx).2)) HN.out).mono ?_;rintro e w4 ⟨rfl,hx4⟩;have c0':=(HK1.out.ext (HX2.out.trans hx4)).cell 0;have c2':=(HK1.out.ext (HX2.out.trans hx4)).cell 2;simp only [Go.Tw.gA,Go.Tw.gB,Go.Tw.gC] at c0' c2';have HX4:=Lib.hid ((HXX.out.trans HX2.out).trans hx4);obtain ⟨S,hS⟩:∃ S,t.states (evN (Q1n l)) = S:=⟨_,rfl⟩;have hSl:S.length = t.basics.length + t.gates.length:=by rw [<- hS]; exact Q6j t _ _
   have hXb:Q4o S < 2 ^ 62:=by rw [<- hS]; exact Nat.lt_of_lt_of_le (HV.out.X8p _ (Nat.le_refl _)) (by decide)
   rw [hS] at HR ⊢;have HSL:=Lib.hid hSl;have HXB:=Lib.hid hXb;clear hS hSl hXb hx4 c0 c1 c2;go_wp2
   go_loopw [8,28] (fun o i wr=>∃ (k:Nat),k <= t.basics.length + t.gates.length /\ i = .int .i64 k /\ Q0s wr w4.heap.size 4 Value.bool o (S.take k) /\ Ext w4 wr) (fun _ i _=>t.basics.length + t.gates.length - (intOf i).toNat)
   case atStart=>exact ⟨0,Nat.zero_le _,rfl,Q0s.nil _ _ _ _,Ext.refl _⟩
   case round =>
    obtain ⟨k,hk,rfl,hown,hx⟩:=hrel
    by_cases hlt:k < t.basics.length + t.gates.length
    . have hb1:=Q9p HXB.out k
      have HB:=Lib.hid (Q4q S k);have HTK:=Lib.hid (Z6s (l:=S) (k:=k) (by rw [HSL.out]; exact hlt))
      have hlen:(S.take k).length = k:=by rw [List.length_take,HSL.out]; omega
      generalize hln:(S.take k).length = ln at hlen;unfold Q0s at hown;rw [hln] at hown;have HLN:=Lib.hid hln;clear hln;go_wp2_with (at_builtin; refine wpList_append_own _ rfl _ _ 77 rfl (w4.heap.size) 4 i0 (.bool false) 1 1 Tryz.underlying77 hi hz0 hz1 hz2 rfl (by decide) _ _ _ rfl (World.ownsRow.alloc hown _) ⟨wr.heap.size,0,none⟩ 1 1 [.bool ((Q4o S).testBit k)] rfl rfl ?_ ?_ ?_ ?_ ?_ ?_; exact Q5k _ _ _; (focus (simp [Value.oneCell'])); (focus (unfold maxLen; omega)); (focus omega); (focus (have:=hx.size; simp at this ⊢; omega)); intro v' w1 hown' hgrow _)
      have hx':=Q3u hx hown (Nat.le_refl _) hgrow;go_wp2;go_roundw
      case rel=>exact ⟨k + 1,by omega,by go_num,by rw [HTK.out,<- HB.out]; rw [<- HLN.out] at hown'; exact Q0s.snoc hown',hx'⟩
      case measure=>simp [intOf]; omega
    . have hall:S.take k = S:=List.take_of_length_le (by rw [HSL.out]; omega)
      have HO:Hid (Q5g wr u8 S):=Lib.hid (by rw [hall] at hown; exact hown.bools (by rw [HSL.out]; omega))
      have HXF:=Lib.hid (HX4.out.trans hx);clear hown hall hx;go_wp2;refine bodyPost_ret (v:=.tuple #[u8,.int .i64 (Q0h t l)]) (by rw [HE0.out]; simp [results,Tryz.results33,go_sem]) rfl ?_
      exact ⟨_,rfl,by rw [HR.out]; exact HO.out,HXF.out⟩
 . have HR:Hid (X0v t l = []):=Lib.hid (by unfold X0v; rw [if_neg he])
   have hne:(Q0h t l != 0) = true:=by simp [he]
   clear he;go_wp2;refine bodyPost_ret (v:=.tuple #[.slice none 0 0,.int .i64 (Q0h t l)]) (by simp [results,Tryz.results33,go_sem]) rfl ?_
   exact ⟨_,rfl,by rw [HR.out]; exact Rows.nil _ _ _,HXX.out⟩
end Go.Proofs
namespace Go.Proofs
open Go.RowKit Go.Tw Go.Flow
def X3y (t:Tree) (p:Bool):List (List Int):=if t.err = 0 then t.sets p else []
theorem Y8s (w:World) (v:Value) (t:Tree) (ht:IsTree w v t) (hT:Tab w) :
    Calls Tryz.prog 20 #[v] w fun e w'=>∃ x,e = .returned (.tuple #[x,.int .i64 t.err]) /\ Q1v w' x (X3y t false) /\ Ext w w':=by
 obtain ⟨a,b,c,rfl,h3⟩:=ht;obtain ⟨A,capa,rfl,hl1,hcap1,_⟩:=h3.basics.opened;obtain ⟨B,capb,rfl,hl2,hcap2,_⟩:=h3.causes.opened;obtain ⟨G,capg,rfl,hl3,hcap3,_⟩:=h3.gates.opened;have hxW:=Ext.box w (.cells #[.slice A t.basics.length capa,.slice B t.causes.length capb,.slice G t.gates.length capg] 33);have k0:=Blk.made w 33 #[.slice A t.basics.length capa,.slice B t.causes.length capb,.slice G t.gates.length capg];have HT:=Lib.hid (h3.ext hxW);have HX:=Lib.hid hxW;clear h3 hxW;have HTAB:=Lib.hid hT;clear hT;go_enter Tryz.func20,Tryz.ntmps20;go_wp2_with fail;refine (Q1y _ _ t ⟨_,_,_,rfl,HT.out⟩).mono ?_;rintro e w1 ⟨rfl,hx1⟩;have k1:=k0.ext hx1;have c0:=k1.cell 0;have c1:=k1.cell 1;have c2:=k1.cell 2;simp only [Go.Tw.gA,Go.Tw.gB,Go.Tw.gC] at c0 c1 c2;have HXX:=Lib.hid (HX.out.trans hx1);have HX1:=Lib.hid hx1;clear k0 k1 hx1
 by_cases he:t.err = 0
 . have HR:Hid (X3y t false = t.sets false):=Lib.hid (by unfold X3y; rw [if_pos he])
   have hV:=Valid.of he;have HV:=Lib.hid hV;have HE0:=Lib.hid he;have hsz:=hV.size;have hne:(t.err != 0) = false:=by simp [he]
   clear he hV;go_wp2_with fail;refine (Q3i _ _ t HV.out ⟨_,_,_,rfl,HT.out.ext HX1.out⟩).mono ?_;rintro e w2 ⟨fv,gv,rfl,hn,hx2⟩;obtain ⟨A1,cap1,rfl,_,_,_⟩:=hn.fails.opened;obtain ⟨A2,cap2,rfl,_,_,_⟩:=hn.gates.opened;rw [Q2g] at hn ⊢;have HN:=Lib.hid hn;have HX2:=Lib.hid hx2;clear hn hx2 c0 c1 c2;go_wp2_with (first | (refine Q0i rfl _ 129 rfl Tryz.Q1s Tryz.Q0r rfl hb9 rfl ?_) | (refine Q0c rfl _ _ 129 rfl Tryz.Q0r rfl rfl (Blk.made _ _ _) rfl rfl ?_ ?_; (focus (intro u hu; simp [outA] at hu; rcases hu with rfl | rfl | rfl | rfl | rfl | rfl | rfl | rfl | rfl | rfl | rfl | rfl | rfl | rfl | rfl | rfl <;> rfl)); intro w9 hb9 hl9 ho9) | fail)
   have hx9:Ext w2 w9:=Below.trans (Ext.box w2 _) (hl9 _ (Nat.le_refl _));have HXX9:Hid (Ext w w9):=by exact (HXX.out.trans HX2.out).trans hx9
   have HN9:=Lib.hid (HN.out.ext hx9);clear hl9 ho9 hb9 hx9;refine (Q9c _ _ _ t t.Q0b 73 (noV t t.Q0b (.slice A1 t.size cap1) (.slice A2 t.gates.length cap2)) (fun s=>t.fails (evN s)) HV.out HN9.out (HTAB.out.ext HXX9.out) (enters_of Tryz.func73 (by kernel_rfl) rfl) (fun W s hx hs=>Q7t W _ _ t t.Q0b s HV.out hs (HN9.out.ext hx))).mono ?_
   rintro e w3 ⟨x,ll,rfl,hii,hp,hso,hx3⟩;have hll:=X6b (p:=false) hsz (fun s hs=>Y8o hsz hs) hp hso;subst hll;have HII:=Lib.hid hii;clear hp hso hii;go_wp2;refine bodyPost_ret (v:=.tuple #[x,.int .i64 t.err]) (by rw [HE0.out]; simp [results,Tryz.results20,go_sem]) rfl ?_
   exact ⟨x,rfl,by rw [HR.out]; exact HII.out,HXX9.out.trans hx3⟩
 . have HR:Hid (X3y t false = []):=Lib.hid (by unfold X3y; rw [if_neg he])
   have hne:(t.err != 0) = true:=by simp [he]
   clear he;go_wp2;refine bodyPost_ret (v:=.tuple #[.slice none 0 0,.int .i64 t.err]) (by simp [results,Tryz.results20,go_sem]) rfl ?_
   exact ⟨_,rfl,by rw [HR.out]; exact Rows.nil _ _ _,HXX.out⟩
theorem Y7v (w:World) (v:Value) (t:Tree) (ht:IsTree w v t) (hT:Tab w) :
    Calls Tryz.prog 34 #[v] w fun e w'=>∃ x,e = .returned (.tuple #[x,.int .i64 t.err]) /\ Q1v w' x (X3y t true) /\ Ext w w':=by
 obtain ⟨a,b,c,rfl,h3⟩:=ht;obtain ⟨A,capa,rfl,hl1,hcap1,_⟩:=h3.basics.opened;obtain ⟨B,capb,rfl,hl2,hcap2,_⟩:=h3.causes.opened;obtain ⟨G,capg,rfl,hl3,hcap3,_⟩:=h3.gates.opened;have hxW:=Ext.box w (.cells #[.slice A t.basics.length capa,.slice B t.causes.length capb,.slice G t.gates.length capg] 33);have k0:=Blk.made w 33 #[.slice A t.basics.length capa,.slice B t.causes.length capb,.slice G t.gates.length capg];have HT:=Lib.hid (h3.ext hxW);have HX:=Lib.hid hxW;clear h3 hxW;have HTAB:=Lib.hid hT;clear hT;go_enter Tryz.func34,Tryz.ntmps34;go_wp2_with fail;refine (Q1y _ _ t ⟨_,_,_,rfl,HT.out⟩).mono ?_;rintro e w1 ⟨rfl,hx1⟩;have k1:=k0.ext hx1;have c0:=k1.cell 0;have c1:=k1.cell 1;have c2:=k1.cell 2;simp only [Go.Tw.gA,Go.Tw.gB,Go.Tw.gC] at c0 c1 c2;have HXX:=Lib.hid (HX.out.trans hx1);have HX1:=Lib.hid hx1;clear k0 k1 hx1
 by_cases he:t.err = 0
 . have HR:Hid (X3y t true = t.sets true):=Lib.hid (by unfold X3y; rw [if_pos he])
   have hV:=Valid.of he;have HV:=Lib.hid hV;have HE0:=Lib.hid he;have hsz:=hV.size;have hne:(t.err != 0) = false:=by simp [he]
   clear he hV;go_wp2_with fail;refine (Q3i _ _ t HV.out ⟨_,_,_,rfl,HT.out.ext HX1.out⟩).mono ?_;rintro e w2 ⟨fv,gv,rfl,hn,hx2⟩;obtain ⟨A1,cap1,rfl,_,_,_⟩:=hn.fails.opened;obtain ⟨A2,cap2,rfl,_,_,_⟩:=hn.gates.opened;rw [Q2g] at hn ⊢;have HN:=Lib.hid hn;have HX2:=Lib.hid hx2;clear hn hx2 c0 c1 c2;go_wp2_with (first | (refine Q0i rfl _ 129 rfl Tryz.Q1s Tryz.Q0r rfl hb9 rfl ?_) | (refine Q0c rfl _ _ 129 rfl Tryz.Q0r rfl rfl (Blk.made _ _ _) rfl rfl ?_ ?_; (focus (intro u hu; simp [outA] at hu; rcases hu with rfl | rfl | rfl | rfl | rfl | rfl | rfl | rfl | rfl | rfl | rfl | rfl | rfl | rfl | rfl | rfl <;> rfl)); intro w9 hb9 hl9 ho9) | fail)
   have hx9:Ext w2 w9:=Below.trans (Ext.box w2 _) (hl9 _ (Nat.le_refl _));have HXX9:Hid (Ext w w9):=by exact (HXX.out.trans HX2.out).trans hx9
   have HN9:=Lib.hid (HN.out.ext hx9);clear hl9 ho9 hb9 hx9;refine (Q9c _ _ _ t t.Q0b 89 (noV t t.Q0b (.slice A1 t.size cap1) (.slice A2 t.gates.length cap2)) (fun s=>!t.fails (evN (Q5r t s))) HV.out HN9.out (HTAB.out.ext HXX9.out) (enters_of Tryz.func89 (by kernel_rfl) rfl) (fun W s hx hs=>Y5w W _ _ t t.Q0b s HV.out hs (HN9.out.ext hx))).mono ?_
   rintro e w3 ⟨x,ll,rfl,hii,hp,hso,hx3⟩;have hll:=X6b (p:=true) hsz (fun s hs=>Z2c hsz hs) hp hso;subst hll;have HII:=Lib.hid hii;clear hp hso hii;go_wp2;refine bodyPost_ret (v:=.tuple #[x,.int .i64 t.err]) (by rw [HE0.out]; simp [results,Tryz.results34,go_sem]) rfl ?_
   exact ⟨x,rfl,by rw [HR.out]; exact HII.out,HXX9.out.trans hx3⟩
 . have HR:Hid (X3y t true = []):=Lib.hid (by unfold X3y; rw [if_neg he])
   have hne:(t.err != 0) = true:=by simp [he]
   clear he;go_wp2;refine bodyPost_ret (v:=.tuple #[.slice none 0 0,.int .i64 t.err]) (by simp [results,Tryz.results34,go_sem]) rfl ?_
   exact ⟨_,rfl,by rw [HR.out]; exact Rows.nil _ _ _,HXX.out⟩
end Go.Proofs
namespace Go.Proofs
open Go.RowKit Go.Tw Go.Flow
def singleR (t:Tree):List Int:=if t.err = 0 then t.single else []
theorem Z7a (k:Nat):evN (2 ^ k) = evL [(k:Int)]:=by
 funext i
 unfold evN evL has;rw [Nat.testBit_two_pow]
 by_cases h:k = i
 . subst h; simp
 . have:¬ (k:Int) = (i:Int):=by omega
   rw [decide_eq_false h]
   symm
   simp only [List.contains_cons,List.contains_nil,Bool.or_false,beq_eq_false_iff_ne];omega
theorem Y3q (w:World) (v:Value) (t:Tree) (ht:IsTree w v t) :
    Calls Tryz.prog 35 #[v] w fun e w'=>∃ x,e = .returned (.tuple #[x,.int .i64 t.err]) /\ Q0e w' x (singleR t) /\ Ext w w':=by
 obtain ⟨i0,hi,hz0,hz1,hz2⟩:=info_parts Tryz.info3;obtain ⟨a,b,c,rfl,h3⟩:=ht;obtain ⟨A,capa,rfl,hl1,hcap1,_⟩:=h3.basics.opened;obtain ⟨B,capb,rfl,hl2,hcap2,_⟩:=h3.causes.opened;obtain ⟨G,capg,rfl,hl3,hcap3,_⟩:=h3.gates.opened;have hxW:=Ext.box w (.cells #[.slice A t.basics.length capa,.slice B t.causes.length capb,.slice G t.gates.length capg] 33);have k0:=Blk.made w 33 #[.slice A t.basics.length capa,.slice B t.causes.length capb,.slice G t.gates.length capg];have HT:=Lib.hid (h3.ext hxW);have HX:=Lib.hid hxW;clear h3 hxW;go_enter Tryz.func35,Tryz.ntmps35;go_wp2_with fail;refine (Q1y _ _ t ⟨_,_,_,rfl,HT.out⟩).mono ?_;rintro e w1 ⟨rfl,hx1⟩;have k1:=k0.ext hx1;have c0:=k1.cell 0;have c1:=k1.cell 1;have c2:=k1.cell 2;simp only [Go.Tw.gA,Go.Tw.gB,Go.Tw.gC] at c0 c1 c2;have HXX:=Lib.hid (HX.out.trans hx1);have HX1:=Lib.hid hx1;clear k0 k1 hx1
 by_cases he:t.err = 0
 . have HR:Hid (singleR t = t.single):=Lib.hid (by unfold singleR; rw [if_pos he])
   have hV:=Valid.of he;have HV:=Lib.hid hV;have HE0:=Lib.hid he;have hsz:=hV.size;have hne:(t.err != 0) = false:=by simp [he]
   clear he hV;go_wp2_with fail;refine (Q3i _ _ t HV.out ⟨_,_,_,rfl,HT.out.ext HX1.out⟩).mono ?_;rintro e w2 ⟨fv,gv,rfl,hn,hx2⟩;obtain ⟨A1,cap1,rfl,_,_,_⟩:=hn.fails.opened;obtain ⟨A2,cap2,rfl,_,_,_⟩:=hn.gates.opened;rw [Q2g] at hn ⊢;have HN:=Lib.hid hn;have HX2:=Lib.hid hx2;clear hn hx2 c0 c1 c2;go_wp2_with (first | (refine Q0c rfl _ _ 129 rfl Tryz.Q0r rfl rfl (Blk.made _ _ _) rfl rfl ?_ ?_; (focus (intro u hu; simp [outA] at hu; rcases hu with rfl | rfl | rfl | rfl | rfl | rfl | rfl | rfl | rfl | rfl | rfl | rfl | rfl | rfl | rfl | rfl <;> rfl)); intro w9 hb9 hl9 ho9); have n0:=hb9.cell 0; simp only [outA,Go.Tw.gA,Go.Tw.gB] at n0 | fail)
   have hx9:Ext w2 w9:=Below.trans (Ext.box w2 _) (hl9 _ (Nat.le_refl _));have HXX9:Hid (Ext w w9):=by exact (HXX.out.trans HX2.out).trans hx9
   have HN9:=Lib.hid (HN.out.ext hx9);have HB9:=Lib.hid hb9;clear hl9 ho9 hb9 hx9
   go_loopw [6,18] (fun o i wr=>∃ (k:Nat),k <= t.size /\ i = .int .i64 k /\ Q0s wr w9.heap.size 3 (.int .i64) o (Q6v t k) /\ Ext w9 wr) (fun _ i _=>t.size - (intOf i).toNat)
   case atStart=>exact ⟨0,Nat.zero_le _,rfl,Q0s.nil _ _ _ _,Ext.refl _⟩
   case round =>
    obtain ⟨k,hk,rfl,hown,hx⟩:=hrel
    by_cases hlt:k < t.size
    . have hp2:(2:Nat) ^ k < 2 ^ t.size:=Nat.pow_lt_pow_right (by omega) hlt
      have hp3:(2:Nat) ^ k < 2 ^ 62:=Nat.pow_lt_pow_right (by omega) (by omega)
      have hss:=X9f t k;rw [<- Z7a] at hss;obtain ⟨Z,hZ⟩:∃ Z,2 ^ k = Z:=⟨_,rfl⟩;rw [hZ] at hp2 hp3 hss;have hpw:=Z5a hZ hp3;have hpw2:wrap64 ((2:Int) ^ k) = (Z:Int):=by rw [Y3w (n:=k) (by omega),hZ]
      obtain ⟨f,hf⟩:∃ f,t.fails (evN Z) = f:=⟨_,rfl⟩;have HCUT:Hid (∀ w',Ext w9 w' -> Calls Tryz.prog 73 #[noV t t.Q0b (.slice A1 t.size cap1) (.slice A2 t.gates.length cap2),.int .i64 Z] w' fun e w''=>e = .returned (.bool f) /\ Ext w' w''):=by
       exact (by intro w' hx'; rw [<- hf]; exact Q7t w' _ _ t t.Q0b Z HV.out hp2 (HN9.out.ext hx'):∀ w',Ext w9 w' -> Calls Tryz.prog 73 #[noV t t.Q0b (.slice A1 t.size cap1) (.slice A2 t.gates.length cap2),.int .i64 Z] w' fun e w''=>e = .returned (.bool f) /\ Ext w' w'')
      rw [hf] at hss;have HSS:=Lib.hid hss;have hkI:(k:Int) < 64:=by omega
      have hsl:=X3j t k;have HOWN:=Lib.hid hown;have HXR:=Lib.hid hx;have hdr:=(Ext.refl wr).drew;clear hf hZ hp2 hp3 hss hown hx n0;go_wp2;refine Flow.Q7s [.w,.p,.p,.w] [0,1,2,3] [[],[],[1],[0,2]]
       [.c 0 (noV t t.Q0b (.slice A1 t.size cap1) (.slice A2 t.gates.length cap2)),.c 1 (.int .i64 k),.c 2 (.int .i64 (Z:Nat)),.c 3 (.bool f)]
       (by kernel_rfl) rfl (by kernel_rfl) ⟨?g0,?g1,?g2,?g3,trivial⟩ ?post
      case g0=>
       intro v w1 hx;intro K hK;exact Q0n _ _ rfl Tryz.Q1s Tryz.Q0r (by go_simp) (HB9.out.ext (HXR.out.trans (hdr.trans hx))) rfl (hK _ _ (Ext.refl _) rfl)
      case g1=>
       intro v w1 hx;refine ⟨_,fun w=>?_,rfl⟩;go_simp
      case g2=>
       intro v w1 hx;(repeat intro (zq:v _ = _));refine ⟨_,fun w=>?_,rfl⟩;go_simp
      case g3=>
       intro v w1 hx;(repeat intro (zq:v _ = _));intro K hK;go_simp;refine Q0d (HCUT.out _ (HXR.out.trans (hdr.trans hx))) ?_;rintro e w2 ⟨rfl,hx2⟩;exact ⟨_,rfl,hK _ _ hx2 rfl⟩
      case post =>
       intro v w1 hx;(iterate 4 intro (zq:v _ = _));simp only [Flow.All,Flow.acts,Act.put];go_simp;have hown:=HOWN.out.below (hdr.trans hx);have hx1:=HXR.out.trans (hdr.trans hx);cases f with
       | false =>
         go_wp2;go_roundw
         case rel=>exact ⟨k + 1,by omega,by go_num,by rw [HSS.out]; simpa using hown,HXR.out.trans (hdr.trans hx)⟩
         case measure=>simp [intOf]; omega
       | true =>
         go_wp2_with (at_builtin; refine wpList_append_own _ rfl _ _ 40 rfl (w9.heap.size) 3 i0 (.int .i64 0) 1 8 Tryz.underlying40 hi hz0 hz1 hz2 rfl (by decide) _ _ _ rfl (World.ownsRow.alloc hown _) ⟨w1.heap.size,0,none⟩ 1 1 [.int .i64 k] rfl rfl ?_ ?_ ?_ ?_ ?_ ?_; exact Q5k _ _ _; (focus (simp [Value.oneCell'])); (focus (unfold maxLen; omega)); (focus omega); (focus (have:=hx1.size; simp at this ⊢; omega)); intro v' w1 hown' hgrow _)
         have hx':=Q3u hx1 hown (Nat.le_refl _) hgrow;go_wp2;go_roundw
         case rel=>exact ⟨k + 1,by omega,by go_num,by rw [HSS.out]; exact Q0s.snoc hown',hx'⟩
         case measure=>simp [intOf]; omega
    . have hks:k = t.size:=by omega
      have HS:Hid (Q6v t k = t.single):=Lib.hid (by rw [hks]; rfl)
      have hsl:=X3j t k;have hii:Q0e wr _ (Q6v t k):=hown.ints (by omega)
      have HII:=Lib.hid hii;have HXR:=Lib.hid hx;clear hks hown hii hx n0;go_wp2;refine bodyPost_ret (v:=.tuple #[_,.int .i64 t.err]) (by rw [HE0.out]; simp [results,Tryz.results35,go_sem]; rfl) rfl ?_
      exact ⟨_,rfl,by rw [HR.out,<- HS.out]; exact HII.out,HXX9.out.trans HXR.out⟩
 . have HR:Hid (singleR t = []):=Lib.hid (by unfold singleR; rw [if_neg he])
   have hne:(t.err != 0) = true:=by simp [he]
   clear he;go_wp2;refine bodyPost_ret (v:=.tuple #[.slice none 0 0,.int .i64 t.err]) (by simp [results,Tryz.results35,go_sem]) rfl ?_
   exact ⟨_,rfl,by rw [HR.out]; exact Rows.nil _ _ _,HXX.out⟩
end Go.Proofs
namespace Go.Proofs
open Go.RowKit Go.Tw Go.Flow
theorem Q2z {P:Program} {K:Value -> World -> Prop} {o:Oper} {a:Act} {w:World} (p x:Operand) (T:TypeId) (ho:o.op = .store T p x)
    {n:Nat} (hS:∀ w,(sizeOf T).run P w = .ok n w) {g:Nat} (hp:a.eval p = .pointer (some ⟨g,0,none⟩)) {BT:TypeId} {cs vs:Array Value} (hx:a.eval x = .agg vs) (hb:Blk w g BT cs) (hn:cs.size = n) (hv:vs.size = n) (h1:∀ u ∈ vs.toList,u.oneCell' = true)
    (h:∀ v w',Blk w' g BT vs -> (∀ n,n <= g -> Below n w w') -> (∀ k,k ≠ g -> w'.heap[k]? = w.heap[k]?) -> K v w'):gives P K ((execOp a.eval o).run P w):=by
 obtain ⟨w',hr,hb',hl,hoo⟩:=Q7c (P:=P) vs.toList 0 w cs hb h1 (by simp [hn,hv])
 have hs:(storeVar T ⟨g,0,none⟩ (.agg vs)).run P w = .ok () w':=by
  have hc:(Value.agg vs).cells = vs:=rfl;unfold storeVar;simp only [Sem.run_bind,hS,Result.andThen_ok];rw [if_neg (by rw [hc]; simp [hv])]
  exact hr
 have hr2:(execOp a.eval o).run P w = .ok .skip w':=by
  unfold execOp;simp only [ho,hp,hx,Instr.storeAt,Instr.sureAddr,Sem.run_bind,Sem.run_pure,Result.andThen_ok,hs]
 rw [hr2];exact h _ _ (by simpa using hb') hl hoo
def Q8u (a b:Int):Array Value:=#[.int .i64 (lowest a b).num,.int .i64 (lowest a b).den]
theorem Q5z (a b:Int):∀ u ∈ (Q8u a b).toList,u.oneCell' = true:=by
 intro u hu;simp only [Q8u,List.mem_cons,List.not_mem_nil,or_false] at hu
 rcases hu with rfl | rfl <;> rfl
theorem Tryz.Q5d (w:World):(isAgg 52).run Tryz.prog w = .ok true w:=by kernel_rfl
theorem Tryz.Q1q (w:World):(sizeOf 52).run Tryz.prog w = .ok 2 w:=by kernel_rfl
theorem Q4y {c:List Int} (h:Small c) (t:Tree) (wi:Nat) (hs:t.size <= 12):0 <= Q1i t c wi /\ Q1i t c wi <= 1152921504606846976:=by
 have h1:=Y2z h t wi (List.finRange (2 ^ t.size));have h2:(2:Nat) ^ t.size <= 2 ^ 12:=Nat.pow_le_pow_right (by omega) hs
 rw [List.length_finRange] at h1;unfold Q1i;refine ⟨h1.1,Int.le_trans h1.2 ?_⟩;generalize (2:Nat) ^ t.size = m at h2;omega
theorem X4n {n:Nat} (h:n <= 12):1 <= Q7g 16 n /\ Q7g 16 n <= 281474976710656:=by
 unfold Q7g;refine ⟨Nat.one_le_pow _ _ (by omega),Nat.le_trans (Nat.pow_le_pow_right (by omega) h) (by decide)⟩
theorem Q4f (w:World) (fv gv:Value) (t:Tree) (c0 c:List Int) (hv:Valid t) (hn:Y2t w fv gv t) (hc:Small c) (hlen:c.length = t.size) :
    Calls Tryz.prog 71 #[noV t c0 fv gv,chV c] w fun e w'=>e = .returned (.agg (Q8u (Q1i t c 0) (Q7g 16 t.size))) /\ Ext w w':=by
 obtain ⟨A1,cap1,rfl,_,_,_⟩:=hn.fails.opened;obtain ⟨A2,cap2,rfl,_,_,_⟩:=hn.gates.opened;rw [Q2g] at hn ⊢;have HN:=Lib.hid hn;have HV:=Lib.hid hv;have HC:=Lib.hid hc;have HLEN:=Lib.hid hlen;have hsz:=hv.size;have hwb:=Q4y hc t 0 hsz;have hpb:=X4n hsz;obtain ⟨m,hm⟩:∃ m,Q1i t c 0 = m:=⟨_,rfl⟩;obtain ⟨d,hd⟩:∃ d,Q7g 16 t.size = d:=⟨_,rfl⟩;rw [hm] at hwb ⊢;rw [hd] at hpb ⊢;have HW:Hid (∀ w',Ext w w' -> Calls Tryz.prog 92 #[noV t c0 (.slice A1 t.size cap1) (.slice A2 t.gates.length cap2),chV c,.int .i64 0] w' fun e w''=>e = .returned (.int .i64 m) /\ Ext w' w''):=by
  exact (by intro w' hx; rw [<- hm]; exact Q4w w' _ _ t c0 c 0 HV.out (HN.out.ext hx) HC.out HLEN.out (by omega):∀ w',Ext w w' -> Calls Tryz.prog 92 #[noV t c0 (.slice A1 t.size cap1) (.slice A2 t.gates.length cap2),chV c,.int .i64 0] w' fun e w''=>e = .returned (.int .i64 m) /\ Ext w' w'')
 have HP:Hid (∀ w',Calls Tryz.prog 93 #[noV t c0 (.slice A1 t.size cap1) (.slice A2 t.gates.length cap2)] w' fun e w''=>e = .returned (.int .i64 d) /\ Ext w' w''):=by
  exact (by intro w'; rw [<- hd]; exact X1i w' t c0 A1 A2 _ _ _ _ hsz:∀ w',Calls Tryz.prog 93 #[noV t c0 (.slice A1 t.size cap1) (.slice A2 t.gates.length cap2)] w' fun e w''=>e = .returned (.int .i64 d) /\ Ext w' w'')
 clear hn hv hc hlen hm hd;rw [Y6c];unfold noV;go_enter Tryz.func71,Tryz.ntmps71;go_wp2;change Code.wp _ _ _ _ (((w.alloc (.cells (outA t.size (.slice A1 t.size cap1) c0 t.basics.length (.slice A2 t.gates.length cap2)) 129)).alloc (.cells (chA c) 124)).alloc (.cells #[.int .i64 0,.int .i64 0] 52));obtain ⟨W,hWW,k0,k1,k2,HXW,eW⟩:=X8e w 129 (outA t.size (.slice A1 t.size cap1) c0 t.basics.length (.slice A2 t.gates.length cap2)) 124 (chA c) 52 #[.int .i64 0,.int .i64 0];rw [hWW];clear hWW;have hdr:=(Ext.refl W).drew;refine Flow.region [.w,.w,.w,.w,.w,.w,.last] [0,1,2,3,4,5,6] [[],[],[0,1],[],[0,1,2,3],[0,1,2,3,4],[0,1,2,3,4,5]] [6]
  [.c 0 (noV t c0 (.slice A1 t.size cap1) (.slice A2 t.gates.length cap2)),.c 1 (chV c),.c 2 (.int .i64 m),.c 3 (noV t c0 (.slice A1 t.size cap1) (.slice A2 t.gates.length cap2)),.c 4 (.int .i64 d),.c 5 (.agg (Q8u m d)),.none]
  [fun v w1 w'=>Blk w' (w.heap.size + 1 + 1) 52 (Q8u m d) /\ Below w.heap.size w1 w'] (by kernel_rfl) rfl (by kernel_rfl) ⟨?g0,?g1,?g2,?g3,?g4,?g5,?g6,trivial⟩ ?post
 case g0 | g3=>
  intro v w1 hx;intro K hK;exact Q0n _ _ rfl Tryz.Q1s Tryz.Q0r (by go_simp) (k0.ext (hdr.trans hx)) rfl (hK _ _ (Ext.refl _) rfl)
 case g1=>
  intro v w1 hx;intro K hK;exact Q0n _ _ rfl Tryz.Q6u Tryz.Q3z (by go_simp) (k1.ext (hdr.trans hx)) rfl (hK _ _ (Ext.refl _) rfl)
 case g2=>
  intro v w1 hx;(repeat intro (zq:v _ = _));intro K hK;go_simp;refine Q0d (HW.out _ (HXW.out.trans (hdr.trans hx))) ?_;rintro e w2 ⟨rfl,hx2⟩;exact ⟨_,rfl,hK _ _ hx2 rfl⟩
 case g4=>
  intro v w1 hx;(repeat intro (zq:v _ = _));intro K hK;go_simp;refine Q0d (HP.out _) ?_;rintro e w2 ⟨rfl,hx2⟩;exact ⟨_,rfl,hK _ _ hx2 rfl⟩
 case g5=>
  intro v w1 hx;(repeat intro (zq:v _ = _));intro K hK;go_simp;refine Q0d (Q7w _ m d hwb.1 (by omega) (by omega) (by omega)) ?_
  rintro e w2 ⟨rfl,hx2⟩;exact ⟨_,rfl,hK _ _ hx2 rfl⟩
 case g6=>
  intro v w1 hx;(repeat intro (zq:v _ = _));intro wl hT;obtain rfl:wl = w1:=hT;intro bb hbb;intro K hK;have o1:bb.eval (.tmp 4) = .pointer (some ⟨w.heap.size + 1 + 1,0,none⟩):=by rw [hbb]; dsimp only; (try simp (discharger:=decide) only [eval_put_ne]); rfl
  have o2:bb.eval (.tmp 10) = .agg (Q8u m d):=by rw [hbb]; dsimp only; (try simp (discharger:=decide) only [eval_put_ne]); rw [Q0a (by simp only [size_put]; exact (by decide:10 < 11))]; assumption
  exact Q2z (.tmp 4) (.tmp 10) _ rfl Tryz.Q1q o1 o2 (k2.ext (hdr.trans hx)) rfl rfl (Q5z _ _) (fun vv w' hb hl ho=>hK _ _ ⟨hb,hl _ (by omega)⟩)
 case post =>
  intro v w1 hx;(iterate 6 intro (zq:v _ = _));intro w2 hE;replace hE:(fun v w1 w'=>Blk w' (w.heap.size + 1 + 1) 52 (Q8u m d) /\ Below w.heap.size w1 w') v w1 w2:=hE;simp only [Flow.acts,Act.put];go_simp;obtain ⟨hb9,hl9⟩:=hE;go_wp2;refine bodyPost_ret (Q4u Tryz.results71 rfl hb9 Tryz.Q5d Tryz.Q1q) rfl ?_;exact ⟨rfl,Below.trans (HXW.out.trans (hdr.trans hx)) hl9⟩
end Go.Proofs
namespace Go.Proofs
open Go.RowKit Go.Tw Go.Flow
def Part (w:World) (g off:Nat) (sub:Array Value):Prop:=∀ k (hk:k < sub.size),w.cell? ⟨g,off + k,none⟩ = some sub[k]
theorem Part.ext {w w':World} {g off:Nat} {sub:Array Value} (h:Part w g off sub) (hx:Ext w w'):Part w' g off sub:=fun k hk=>hx.cell (h k hk)
theorem Y1m {P:Program} {w:World} {g off:Nat} {cs:Array Value} (h:Part w g off cs):(loadCells ⟨g,off,none⟩ cs.size).run P w = .ok cs w:=by
 have gen:∀ (n i:Nat) (acc:Array Value),i + n = cs.size -> acc.toList = cs.toList.take i -> (loadCellsFrom ⟨g,off,none⟩ i n acc).run P w = .ok cs w:=by
  intro n
  induction n with
  | zero =>
    intro i acc hi ha;have:acc = cs:=by
     apply Array.toList_inj.1
     rw [ha,List.take_of_length_le (by simp; omega)]
    subst this;simp [loadCellsFrom]
  | succ n ih =>
    intro i acc hi ha;have hlt:i < cs.size:=by omega
    have h0:=h i hlt;have ea:(⟨g,off,none⟩:Addr).add i = ⟨g,off + i,none⟩:=by rw [addr_add]
    rw [loadCellsFrom,ea];simp only [Sem.run_bind,load,Sem.run,h0,Result.andThen_ok];refine ih (i + 1) _ (by omega) ?_
    rw [Array.toList_push,ha,<- Array.getElem_toList (by simpa using hlt),List.take_append_getElem]
 exact gen cs.size 0 #[] (by omega) (by simp)
theorem X3p {P:Program} {w:World} {g off:Nat} {T:TypeId} {cs:Array Value} (h:Part w g off cs) (hA:∀ w,(isAgg T).run P w = .ok true w) (hS:∀ w,(sizeOf T).run P w = .ok cs.size w):(loadVar T ⟨g,off,none⟩).run P w = .ok (.agg cs) w:=by
 unfold loadVar;simp only [Sem.run_bind,hA,Result.andThen_ok,if_true,hS,Y1m h,Sem.run_pure]
theorem Q6q {P:Program} {w:World} {o:Oper} {a:Act} {p:Operand} {T:TypeId} {g off:Nat} {cs:Array Value} (hop:o.op = .load T p) (hA:∀ w,(isAgg T).run P w = .ok true w) (hS:∀ w,(sizeOf T).run P w = .ok cs.size w) (hp:a.eval p = .pointer (some ⟨g,off,none⟩)) (h:Part w g off cs):(execOp a.eval o).run P w = .ok (.value (.agg cs)) w:=by
 unfold execOp;simp only [hop,hp,Instr.loadAt,Instr.sureAddr,Sem.run_bind,Sem.run_pure,Result.andThen_ok,X3p h hA hS]
theorem Q1x {P:Program} {w:World} {ops:Array Oper} {rest:List Oper} {o:Oper} {a:Act} {Q:Exit -> Act -> World -> Prop} (hg:o.guard = none) (p:Operand) (T:TypeId) (hop:o.op = .load T p)
    (hA:∀ w,(isAgg T).run P w = .ok true w) {n:Nat} (hS:∀ w,(sizeOf T).run P w = .ok n w) {g off:Nat} (hp:a.eval p = .pointer (some ⟨g,off,none⟩)) {cs:Array Value} (hb:Part w g off cs) (hn:cs.size = n)
    (hK:wpList P ops Q rest (a.put o.dst (.agg cs)) w):wpList P ops Q (o :: rest) a w:=by
 subst hn;refine wpList_plain hg fun K' hK'=>?_;unfold Oper.wp;rw [Q6q hop hA hS hp hb];exact hK' _ _ hK
theorem Q6z {F:Fence} {n0:Nat} {P:Program} {w:World} {ops:Array Oper} {rest:List Oper} {o:Oper} {a:Act} {Q:Exit -> Act -> World -> Prop} (hw:Region.wanted o (yielded ops a.tmps) = true) (p:Operand) (T:TypeId) (hop:o.op = .load T p)
    (hA:∀ w,(isAgg T).run P w = .ok true w) {n:Nat} (hS:∀ w,(sizeOf T).run P w = .ok n w) {g off:Nat} (hp:a.eval p = .pointer (some ⟨g,off,none⟩)) {cs:Array Value} (hb:Part w g off cs) (hn:cs.size = n)
    (hK:wpListIn F n0 P ops Q rest (a.put o.dst (.agg cs)) w):wpListIn F n0 P ops Q (o :: rest) a w:=by
 subst hn;refine BigFrame.wpListIn_want hw fun K' hK'=>?_;unfold Oper.wpIn;refine ⟨?_,?_⟩
 . simp [Oper.about,hop]
 . rw [Oper.semAt_plain F _ _ (by rw [hop]; intro c hc'; cases hc'),Q6q hop hA hS hp hb]
   exact hK' _ _ hK
theorem Q2q {P:Program} {K:Value -> World -> Prop} {o:Oper} {a:Act} {w:World} (p:Operand) (T:TypeId) (ho:o.op = .load T p) (hA:∀ w,(isAgg T).run P w = .ok true w) {n:Nat} (hS:∀ w,(sizeOf T).run P w = .ok n w)
    {g off:Nat} (hp:a.eval p = .pointer (some ⟨g,off,none⟩)) {cs:Array Value} (hb:Part w g off cs) (hn:cs.size = n) (h:K (.agg cs) w):gives P K ((execOp a.eval o).run P w):=by
 subst hn;rw [Q6q ho hA hS hp hb];exact h
theorem Q1w {w:World} {g:Nat} {T:TypeId} {sz:Int} {fv:Value} {c:List Int} {nb:Int} {gv:Value} (h:Blk w g T (outA sz fv c nb gv)):Part w g 2 (chA c):=by
 intro k hk;have hk12:k < 12:=hk;have h1:=X8b c hk12;rw [Array.getElem?_eq_getElem hk] at h1;rw [h.cell (2 + k),X9n sz fv c nb gv hk12,h1]
end Go.Proofs
namespace Go.Proofs
open Go.RowKit Go.Tw Go.Flow
theorem _root_.Go.Tw.Valid.small {t:Tree} (h:Valid t):Small t.Q0b:=by
 refine ⟨by simpa [Tree.Q0b] using h.size,fun x hx=>?_⟩
 obtain ⟨i,hi,rfl⟩:=List.mem_map.1 hx;exact h.chance (List.mem_range.1 hi)
theorem _root_.Go.Tw.Valid.nodes {t:Tree} (h:Valid t):1 <= t.nodes:=by
 have:=h.nb;unfold Tree.nodes; omega
end Go.Proofs
namespace Go.Proofs
open Go.RowKit Go.Tw Go.Flow
def encR (r:Ratio):Array Value:=#[.int .i64 r.num,.int .i64 r.den]
theorem Q7i (r:Ratio):∀ u ∈ (encR r).toList,u.oneCell' = true:=by
 intro u hu;simp only [encR,List.mem_cons,List.not_mem_nil,or_false] at hu
 rcases hu with rfl | rfl <;> rfl
theorem Q0q {P:Program} {fn:Func} {p q:Tmp} {T:TypeId} (h:fn.results = #[.cell p T,.tmp q]) {tmps:Array Value} {w:World} {g:Nat} (ht:tmps.getD p undef = .pointer (some ⟨g,0,none⟩)) {BT:TypeId} {cs:Array Value} (hb:Blk w g BT cs)
    (hA:∀ w,(isAgg T).run P w = .ok true w) (hS:∀ w,(sizeOf T).run P w = .ok cs.size w) {v:Value} (hq:tmps.getD q undef = v):(results fn tmps).run P w = .ok (.tuple #[.agg cs,v]) w:=by
 unfold results;rw [h];simp only [List.mapM_toArray,List.mapM_cons,List.mapM_nil,Sem.run_bind,Sem.run_pure,ht,hq,asAddr];simp [Q3b hb hA hS]
def Q9b (t:Tree):Ratio:=if t.err = 0 then lowest (Q1i t t.Q0b 0) (Q7g 16 t.size) else ⟨0,0⟩
theorem X0t (w:World) (v:Value) (t:Tree) (ht:IsTree w v t) :
    Calls Tryz.prog 19 #[v] w fun e w'=>e = .returned (.tuple #[.agg (encR (Q9b t)),.int .i64 t.err]) /\ Ext w w':=by
 obtain ⟨a,b,c,rfl,h3⟩:=ht;obtain ⟨A,capa,rfl,hl1,hcap1,_⟩:=h3.basics.opened;obtain ⟨B,capb,rfl,hl2,hcap2,_⟩:=h3.causes.opened;obtain ⟨G,capg,rfl,hl3,hcap3,_⟩:=h3.gates.opened;have HT0:=Lib.hid h3;clear h3;go_enter Tryz.func19,Tryz.ntmps19;go_wp2_with fail;change Calls _ _ _ ((w.alloc (.cells #[.slice A t.basics.length capa,.slice B t.causes.length capb,.slice G t.gates.length capg] 33)).alloc (.cells #[.int .i64 0,.int .i64 0] 52)) _;obtain ⟨W,hWW,k0,k1,HXW,eW⟩:=Q5l w 33 #[.slice A t.basics.length capa,.slice B t.causes.length capb,.slice G t.gates.length capg] 52 #[.int .i64 0,.int .i64 0];rw [hWW];clear hWW;have HT:=Lib.hid (HT0.out.ext HXW.out);refine (Q1y _ _ t ⟨_,_,_,rfl,HT.out⟩).mono ?_;rintro e w1 ⟨rfl,hx1⟩;have kt:=k0.ext hx1;have c0:=kt.cell 0;have c1:=kt.cell 1;have c2:=kt.cell 2;simp only [Go.Tw.gA,Go.Tw.gB,Go.Tw.gC] at c0 c1 c2;have HXX:=Lib.hid (HXW.out.trans hx1);have HX1:=Lib.hid hx1;clear kt hx1;have hbr:=k1.ext HX1.out;clear k0 k1
 by_cases he:t.err = 0
 . have HR:Hid (Q9b t = lowest (Q1i t t.Q0b 0) (Q7g 16 t.size)):=Lib.hid (by unfold Q9b; rw [if_pos he])
   have hV:=Valid.of he;have HV:=Lib.hid hV;have HE0:=Lib.hid he;have hsz:=hV.size;have hne:(t.err != 0) = false:=by simp [he]
   clear he hV;go_wp2_with fail;refine (Q3i _ _ t HV.out ⟨_,_,_,rfl,HT.out.ext HX1.out⟩).mono ?_;rintro e w2 ⟨fv,gv,rfl,hn,hx2⟩;obtain ⟨A1,cap1,rfl,_,_,_⟩:=hn.fails.opened;obtain ⟨A2,cap2,rfl,_,_,_⟩:=hn.gates.opened;rw [Q2g] at hn ⊢;have HN:=Lib.hid hn;have HX2:=Lib.hid hx2;clear hn hx2 c0 c1 c2;replace hbr:=hbr.ext HX2.out;have hbl:=hbr.lt;go_wp2_with (first | (refine Q0i rfl _ 129 rfl Tryz.Q1s Tryz.Q0r rfl hb9 rfl ?_) | (refine Q1x rfl _ 124 rfl Tryz.Q6u Tryz.Q3z rfl (Q1w hb9) rfl ?_) | (refine Q0c rfl _ _ 129 rfl Tryz.Q0r rfl rfl (Blk.made _ _ _) rfl rfl ?_ ?_; (focus (intro u hu; simp [outA] at hu; rcases hu with rfl | rfl | rfl | rfl | rfl | rfl | rfl | rfl | rfl | rfl | rfl | rfl | rfl | rfl | rfl | rfl <;> rfl)); intro w9 hb9 hl9 ho9) | fail)
   have hx9:Ext w2 w9:=Below.trans (Ext.box w2 _) (hl9 _ (Nat.le_refl _));have HXX9:Hid (Ext w w9):=by exact (HXX.out.trans HX2.out).trans hx9
   have HN9:=Lib.hid (HN.out.ext hx9);replace hbr:=hbr.ext hx9;clear hl9 ho9 hb9 hx9;refine (Q4f _ _ _ t t.Q0b t.Q0b HV.out HN9.out HV.out.small (by unfold Tree.Q0b; simp)).mono ?_
   rintro e w3 ⟨rfl,hx3⟩;replace hbr:=hbr.ext hx3;go_wp2_with (refine Q0c rfl _ _ _ rfl Tryz.Q1q rfl rfl hbr rfl rfl ?_ ?_; (focus (exact Q5z _ _)); intro w8 hb8 hl8 ho8);refine bodyPost_ret (Q0q Tryz.results19 rfl hb8 Tryz.Q5d Tryz.Q1q rfl) rfl ?_;exact ⟨by rw [HR.out,HE0.out]; rfl,Below.trans (HXX9.out.trans hx3) (hl8 _ (by omega))⟩
 . have HR:Hid (Q9b t = ⟨0,0⟩):=Lib.hid (by unfold Q9b; rw [if_neg he])
   have hne:(t.err != 0) = true:=by simp [he]
   clear he;go_wp2_with (refine Q0c rfl _ _ _ rfl Tryz.Q1q rfl rfl hbr rfl rfl ?_ ?_; (focus (exact Q7i ⟨0,0⟩)); intro w8 hb8 hl8 ho8);refine bodyPost_ret (Q0q Tryz.results19 rfl hb8 Tryz.Q5d Tryz.Q1q rfl) rfl ?_;exact ⟨by rw [HR.out]; rfl,Below.trans HXX.out (hl8 _ (by omega))⟩
end Go.Proofs
namespace Go.Flow
open Go.RowKit Go.Tw
def Y7r (P:Program) (ops:Array Oper) (pre:Nat -> List Nat) (tail:List Nat) (w0:World) (D:Nat -> (Nat -> Value) -> World -> Prop):List ((Nat -> Value) -> World -> World -> Prop) -> ((Nat -> Value) -> World -> World -> Prop) -> List Oper -> List Kind -> List Nat -> ((Nat -> Value) -> Act) -> Prop
 | El,T,o :: l,k :: kl,j :: jl,b =>
   match k,El with
   | .last,E :: El=>(∀ v w1,Ext w0 w1 -> Facts pre D v w1 ((pre j).filter fun i=>!tail.contains i) (∀ w,T v w1 w -> ∀ bb,bb = b v -> Guarded ops o bb (Due P pre D E .last o j bb v w1 w) (Pass pre D E .last j v w1 w))) /\
      Y7r P ops pre tail w0 D El (fun v w1 w=>E (mask pre j v) w1 w) l kl jl (fun v=>(b v).put o.dst (v j))
   | .last,[]=>False
   | k,El=>(∀ v w1,Ext w0 w1 -> Facts pre D v w1 (pre j) (∀ bb,bb = b v -> Guarded ops o bb (Due P pre D (fun _ _ _=>False) k o j bb v w1 w1) (Pass pre D (fun _ _ _=>False) k j v w1 w1))) /\ Y7r P ops pre tail w0 D El T l kl jl (fun v=>(b v).put o.dst (v j))
 | _,_,_,_,_,_=>True
theorem X1y {pre:Nat -> List Nat} {D:Nat -> (Nat -> Value) -> World -> Prop} {v:Nat -> Value} {w:World} {G G':Prop} (h:G -> G'):∀ {l:List Nat},Facts pre D v w l G -> Facts pre D v w l G'
 | [],hg=>h hg
 | _ :: _,hg=>fun hd=>X1y h (hg hd)
theorem X1z {P:Program} {ops:Array Oper} {pre:Nat -> List Nat} {tail:List Nat} {w0:World} {D:Nat -> (Nat -> Value) -> World -> Prop}:∀ (l:List Oper) (kl:List Kind) (jl:List Nat) (El:List ((Nat -> Value) -> World -> World -> Prop)) (T:(Nat -> Value) -> World -> World -> Prop) (b:(Nat -> Value) -> Act),
    Y7r P ops pre tail w0 D El T l kl jl b -> X4i P ops pre tail w0 D El T l kl jl b
 | [],_,_,_,_,_,_=>by simp [X4i]
 | _ :: _,[],_,_,_,_,_=>by simp [X4i]
 | _ :: _,_ :: _,[],_,_,_,_=>by simp [X4i]
 | o :: l,.last :: kl,j :: jl,E :: El,T,b,h=>⟨h.1,X1z l kl jl El _ _ h.2⟩
 | o :: l,.last :: kl,j :: jl,[],T,b,h=>h
 | o :: l,.plain :: kl,j :: jl,El,T,b,h=>⟨fun v w1 hx=>X1y (fun hg=>hg _ rfl) (h.1 v w1 hx),X1z l kl jl El _ _ h.2⟩
 | o :: l,.world :: kl,j :: jl,El,T,b,h=>⟨fun v w1 hx=>X1y (fun hg=>hg _ rfl) (h.1 v w1 hx),X1z l kl jl El _ _ h.2⟩
section
variable {P:Program} {ops:List Oper} {id:Nat} {Q:Exit -> Act -> World -> Prop} {a0:Act} {w:World}
theorem Q3x (kl:List Kind) (jl:List Nat) (pl:List (List Nat)) (tail:List Nat) (Dl:List Spec) (El:List ((Nat -> Value) -> World -> World -> Prop))
    (hm:P.follows .mixedOrders = true) (hjl:jl = List.range' 0 ops.length) (hok:okL ops pl kl tail El.length = true)
    (hvc:Y7r P ops.toArray (lookup pl []) tail w.drew (fun k=>(lookup Dl .none k).D) El (fun _ w1 w=>w = w1) ops kl jl (fun _=>a0))
    (hpost:∀ v w1,Ext w.drew w1 -> All (lookup pl []) (fun k=>(lookup Dl .none k).D) v w1 tail jl (∀ w',endOf (lookup pl []) v w1 w' tail El -> Q .normal (acts v ops jl a0) w')) :
    (Code.region id ops.toArray true).wp P Q a0 w:=region kl jl pl tail Dl El hm hjl hok (X1z _ _ _ _ _ _ hvc) hpost
theorem Q2p (kl:List Kind) (jl:List Nat) (pl:List (List Nat)) (Dl:List Spec)
    (hm:P.follows .mixedOrders = true) (hjl:jl = List.range' 0 ops.length) (hok:okL ops pl kl [] 0 = true)
    (hvc:Y7r P ops.toArray (lookup pl []) [] w.drew (fun k=>(lookup Dl .none k).D) [] (fun _ w1 w=>w = w1) ops kl jl (fun _=>a0))
    (hpost:∀ v w1,Ext w.drew w1 -> All (lookup pl []) (fun k=>(lookup Dl .none k).D) v w1 [] jl (Q .normal (acts v ops jl a0) w1)) :
    (Code.region id ops.toArray true).wp P Q a0 w:=Q7s kl jl pl Dl hm hjl hok (X1z _ _ _ _ _ _ hvc) hpost
theorem Y0k {l n:Nat} (kl:List Kind) (jl:List Nat) (pl:List (List Nat)) (Dl:List Spec)
    (hm:P.follows .mixedOrders = true) (hnd:X9c ops = true) (hjl:jl = List.range' 0 ops.length) (hok:okL ops pl kl [] 0 = true)
    (hvc:Y7r P ops.toArray (lookup pl []) [] w.drew (fun k=>(lookup Dl .none k).D) [] (fun _ w1 w=>w = w1) ops kl jl (fun _=>a0))
    (hpost:∀ v w1,Ext w.drew w1 -> All (lookup pl []) (fun k=>(lookup Dl .none k).D) v w1 [] jl (Q .normal (acts v ops jl a0) w1)) :
    (Code.region id ops.toArray true).wpIn (rnd l) n P Q a0 w:=Y5x kl jl pl Dl hm hnd hjl hok (X1z _ _ _ _ _ _ hvc) hpost
end
end Go.Flow
