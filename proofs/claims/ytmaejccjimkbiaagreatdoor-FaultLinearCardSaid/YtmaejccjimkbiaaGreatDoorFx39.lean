/- Contracts of the reference: SameInts, SameBools. Contract of the law's own function: ints. Contract of the law's own function: sample. Worlds that differ from an earlier one in one block alone; slices of structs appended to in such a world. -/
import Derived.Test.YtmaejccjimkbiaaGreatDoorFx38
import Derived.Test.YtmaejccjimkbiaaGreatDoorFx10
set_option linter.unusedVariables false
set_option linter.unusedSimpArgs false
set_option linter.constructorNameAsVariable false
namespace Go.Proofs
open Go.RowKit Go.Tw Go.Flow
theorem X1c {α:Type} [DecidableEq α] {x y:α} {l m:List α} (h:x = y):decide (x :: l = y :: m) = decide (l = m):=by
 subst h; simp
theorem X1i {α:Type} [DecidableEq α] {x y:α} {l m:List α} (h:¬ x = y):decide (x :: l = y :: m) = false:=by
 simp [h]
set_option maxHeartbeats 400000 in
theorem Q7l (w:World) (u v:Value) (a b:List Int) (hu:Q0f w u a) (hv:Q0f w v b) :
    Calls Tryz.prog 65 #[u,v] w fun e w'=>e = .returned (.bool (decide (a = b))) ∧ Ext w w':=by
 obtain ⟨A,capa,rfl,hla,hcapa,hca⟩:=hu.opened;obtain ⟨B,capb,rfl,hlb,hcapb,hcb⟩:=hv.opened;clear hu hv;go_enter Tryz.func65,Tryz.ntmps65
 by_cases hl:a.length = b.length
 · have hne:((a.length:Int) != (b.length:Int)) = false:=by simp [hl]
   go_wp2
   go_loopw [5] (fun i wr=>∃ k:Nat,k ≤ a.length ∧ i = .int .i64 k ∧ decide (a.drop k = b.drop k) = decide (a = b) ∧ Ext w wr) (fun i _=>a.length - (intOf i).toNat)
   case atStart=>exact ⟨0,Nat.zero_le _,rfl,rfl,Ext.refl _⟩
   case round =>
    obtain ⟨k,hk,rfl,hr,hx⟩:=hrel;have HR:=Lib.hid hr; clear hr
    by_cases hlt:k < a.length
    · have hlt2:k < b.length:=by omega
      obtain ⟨b1,off1,rfl,hc1⟩:=hca k hlt;obtain ⟨b2,off2,rfl,hc2⟩:=hcb k hlt2;replace hc1:=hx.cell hc1;replace hc2:=hx.cell hc2;have HD1:=Lib.hid (Q3q hlt);have HD2:=Lib.hid (Q3q hlt2);clear hca hcb
      by_cases h0:ix a k = ix b k
      · have hx1:(ix a k != ix b k) = false:=by simp [h0]
        have H0:=Lib.hid h0; clear h0;go_wp2
        go_quiet (fail)
        all_goals go_wp2
        go_roundw
        case rel=>exact ⟨k + 1,by omega,by go_num,by rw [← HR.out,HD1.out,HD2.out,X1c H0.out],hx.drewN _⟩
        case measure=>simp [intOf]; omega
      · have hx1:(ix a k != ix b k) = true:=by simp [h0]
        have H0:=Lib.hid h0; clear h0;go_wp2
        go_quiet (fail)
        all_goals go_wp2
        go_ret;exact ⟨Q1q (by rw [← HR.out,HD1.out,HD2.out,X1i H0.out]),hx.drewN _⟩
    · clear hca hcb
      go_wp2;go_ret;exact ⟨Q1q (by rw [← HR.out,List.drop_eq_nil_of_le (by omega),List.drop_eq_nil_of_le (by omega)]; rfl),hx⟩
 · have hne:((a.length:Int) != (b.length:Int)) = true:=by simp; omega
   have HL:Hid (decide (a = b) = false):=by exact (decide_eq_false (fun h=>hl (by rw [h])):decide (a = b) = false)
   clear hl hca hcb;go_wp2;go_ret;exact ⟨Q1q (by rw [HL.out]),Ext.refl _⟩
theorem Y9q {l:List Bool} {k:Nat} (h:k < l.length):l.drop k = bx l k :: l.drop (k + 1):=by
 unfold bx; rw [show l.getD k false = l[k] by simp [h]]; exact List.drop_eq_getElem_cons h
set_option maxHeartbeats 400000 in
theorem X8h (w:World) (u v:Value) (a b:List Bool) (hu:Q4s w u a) (hv:Q4s w v b) :
    Calls Tryz.prog 64 #[u,v] w fun e w'=>e = .returned (.bool (decide (a = b))) ∧ Ext w w':=by
 obtain ⟨A,capa,rfl,hla,hcapa,hca⟩:=hu.opened;obtain ⟨B,capb,rfl,hlb,hcapb,hcb⟩:=hv.opened;clear hu hv;go_enter Tryz.func64,Tryz.ntmps64
 by_cases hl:a.length = b.length
 · have hne:((a.length:Int) != (b.length:Int)) = false:=by simp [hl]
   go_wp2
   go_loopw [5] (fun i wr=>∃ k:Nat,k ≤ a.length ∧ i = .int .i64 k ∧ decide (a.drop k = b.drop k) = decide (a = b) ∧ Ext w wr) (fun i _=>a.length - (intOf i).toNat)
   case atStart=>exact ⟨0,Nat.zero_le _,rfl,rfl,Ext.refl _⟩
   case round =>
    obtain ⟨k,hk,rfl,hr,hx⟩:=hrel;have HR:=Lib.hid hr; clear hr
    by_cases hlt:k < a.length
    · have hlt2:k < b.length:=by omega
      obtain ⟨b1,off1,rfl,_,hc1⟩:=hca k hlt;obtain ⟨b2,off2,rfl,_,hc2⟩:=hcb k hlt2;replace hc1:=hx.cell hc1;replace hc2:=hx.cell hc2;have HD1:=Lib.hid (Y9q hlt);have HD2:=Lib.hid (Y9q hlt2);clear hca hcb;cases hxa:bx a k with
      | false =>
        cases hxb:bx b k with
        | false =>
          rw [hxa] at hc1;rw [hxb] at hc2;have H0:Hid (bx a k = bx b k):=by exact (by rw [hxa,hxb]:bx a k = bx b k)
          clear hxa hxb;go_wp2
          go_quiet (fail)
          all_goals go_wp2
          go_roundw
          case rel=>exact ⟨k + 1,by omega,by go_num,by rw [← HR.out,HD1.out,HD2.out,X1c H0.out],hx.drewN _⟩
          case measure=>simp [intOf]; omega
        | true =>
          rw [hxa] at hc1;rw [hxb] at hc2;have H0:Hid (¬ bx a k = bx b k):=by exact (by rw [hxa,hxb]; decide:¬ bx a k = bx b k)
          clear hxa hxb;go_wp2
          go_quiet (fail)
          all_goals go_wp2
          go_ret;exact ⟨Q1q (by rw [← HR.out,HD1.out,HD2.out,X1i H0.out]),hx.drewN _⟩
      | true =>
        cases hxb:bx b k with
        | false =>
          rw [hxa] at hc1;rw [hxb] at hc2;have H0:Hid (¬ bx a k = bx b k):=by exact (by rw [hxa,hxb]; decide:¬ bx a k = bx b k)
          clear hxa hxb;go_wp2
          go_quiet (fail)
          all_goals go_wp2
          go_ret;exact ⟨Q1q (by rw [← HR.out,HD1.out,HD2.out,X1i H0.out]),hx.drewN _⟩
        | true =>
          rw [hxa] at hc1;rw [hxb] at hc2;have H0:Hid (bx a k = bx b k):=by exact (by rw [hxa,hxb]:bx a k = bx b k)
          clear hxa hxb;go_wp2
          go_quiet (fail)
          all_goals go_wp2
          go_roundw
          case rel=>exact ⟨k + 1,by omega,by go_num,by rw [← HR.out,HD1.out,HD2.out,X1c H0.out],hx.drewN _⟩
          case measure=>simp [intOf]; omega
    · clear hca hcb
      go_wp2;go_ret;exact ⟨Q1q (by rw [← HR.out,List.drop_eq_nil_of_le (by omega),List.drop_eq_nil_of_le (by omega)]; rfl),hx⟩
 · have hne:((a.length:Int) != (b.length:Int)) = true:=by simp; omega
   have HL:Hid (decide (a = b) = false):=by exact (decide_eq_false (fun h=>hl (by rw [h])):decide (a = b) = false)
   clear hl hca hcb;go_wp2;go_ret;exact ⟨Q1q (by rw [HL.out]),Ext.refl _⟩
set_option maxHeartbeats 400000 in
theorem X9s (w:World) (u v:Value) (a b:List (List Int)) (hu:Q1w w u a) (hv:Q1w w v b) :
    Calls Tryz.prog 31 #[u,v] w fun e w'=>e = .returned (.bool (decide (a = b))) ∧ Ext w w':=by
 obtain ⟨A,capa,rfl,hla,hcapa,hca⟩:=hu.opened;obtain ⟨B,capb,rfl,hlb,hcapb,hcb⟩:=hv.opened;clear hu hv;go_enter Tryz.func31,Tryz.ntmps31
 by_cases hl:a.length = b.length
 · have hne:((a.length:Int) != (b.length:Int)) = false:=by simp [hl]
   have HLL:=Lib.hid hl;clear hl;have HCA:=Lib.hid hca;have HCB:=Lib.hid hcb;clear hca hcb;go_wp2
   go_loopw [5] (fun i wr=>∃ k:Nat,k ≤ a.length ∧ i = .int .i64 k ∧ decide (a.drop k = b.drop k) = decide (a = b) ∧ Ext w wr) (fun i _=>a.length - (intOf i).toNat)
   case atStart=>exact ⟨0,Nat.zero_le _,rfl,rfl,Ext.refl _⟩
   case round =>
    obtain ⟨k,hk,rfl,hr,hxw⟩:=hrel;have HR:=Lib.hid hr; clear hr
    by_cases hlt:k < a.length
    · have hlt2:k < b.length:=by have:=HLL.out; omega
      obtain ⟨b1,off1,m1,rfl,_,hc1,hm1⟩:=HCA.out k hlt;obtain ⟨b2,off2,m2,rfl,_,hc2,hm2⟩:=HCB.out k hlt2;have HC1:=Lib.hid (hxw.cell hc1);have HC2:=Lib.hid (hxw.cell hc2);have HM1:=Lib.hid (hm1.ext hxw);have HM2:=Lib.hid (hm2.ext hxw);have HD1:Hid (a.drop k = a.getD k [] :: a.drop (k + 1)):=by exact (by rw [Q3u _ hlt]; exact List.drop_eq_getElem_cons hlt:a.drop k = a.getD k [] :: a.drop (k + 1))
      have HD2:Hid (b.drop k = b.getD k [] :: b.drop (k + 1)):=by exact (by rw [Q3u _ hlt2]; exact List.drop_eq_getElem_cons hlt2:b.drop k = b.getD k [] :: b.drop (k + 1))
      obtain ⟨x,hx0⟩:∃ x,a.getD k [] = x:=⟨_,rfl⟩;obtain ⟨y,hy0⟩:∃ y,b.getD k [] = y:=⟨_,rfl⟩;rw [hx0] at HM1 HD1;rw [hy0] at HM2 HD2;obtain ⟨qd,hqd⟩:∃ q,decide (x = y) = q:=⟨_,rfl⟩;have HQ:=Lib.hid hqd;have HS:Hid (∀ w',Ext wr w' → Calls Tryz.prog 65 #[m1,m2] w' fun e w''=>e = .returned (.bool qd) ∧ Ext w' w''):=by
       exact (fun w' h=>by rw [← hqd]; exact Q7l w' _ _ x y (HM1.out.ext h) (HM2.out.ext h):∀ w',Ext wr w' → Calls Tryz.prog 65 #[m1,m2] w' fun e w''=>e = .returned (.bool qd) ∧ Ext w' w'')
      have hkI:(k:Int) < a.length:=by omega
      have hkI2:(k:Int) < b.length:=by omega
      have hdr:=(Ext.refl wr).drew;clear hc1 hc2 hm1 hm2 hx0 hy0 hqd;go_wp2;refine Flow.Q3g [.plain,.plain,.plain,.world,.plain,.plain,.plain,.world,.world,.plain] [0,1,2,3,4,5,6,7,8,9] [[],[],[0,1],[2],[],[],[4,5],[6],[3,7],[8]]
       [.is 0 (fun v=>.slice (some ⟨b1,off1,none⟩) a.length capa),.is 1 (fun v=>.int .i64 k),.is 2 (fun v=>.pointer (some ⟨b1,off1 + k,none⟩)),.is 3 (fun v=>m1),.is 4 (fun v=>.slice (some ⟨b2,off2,none⟩) b.length capb),.is 5 (fun v=>.int .i64 k),.is 6 (fun v=>.pointer (some ⟨b2,off2 + k,none⟩)),.is 7 (fun v=>m2),.is 8 (fun v=>.bool qd),.is 9 (fun v=>.bool (!qd))]
       (by kernel_rfl) rfl (by kernel_rfl) ⟨?g0,?g1,?g2,?g3,?g4,?g5,?g6,?g7,?g8,?g9,trivial⟩ ?post
      case g0 =>
       intro v w1 hx;intro bb hbb;subst hbb;refine ⟨_,fun w=>?_,rfl⟩;go_simp
      case g1 =>
       intro v w1 hx;intro bb hbb;subst hbb;refine ⟨_,fun w=>?_,rfl⟩;go_simp
      case g2 =>
       intro v w1 hx (q0:v 0 = .slice (some ⟨b1,off1,none⟩) a.length capa) (q1:v 1 = .int .i64 k);intro bb hbb;subst hbb;refine ⟨_,fun w=>?_,rfl⟩;go_simp
      case g3 =>
       intro v w1 hx (q2:v 2 = .pointer (some ⟨b1,off1 + k,none⟩));intro bb hbb;subst hbb;have n0:w1.cell? ⟨b1,off1 + k,none⟩ = some m1:=(hdr.trans hx).cell HC1.out;intro K hK;go_simp;exact hK _ _ (Ext.refl _) rfl
      case g4 =>
       intro v w1 hx;intro bb hbb;subst hbb;refine ⟨_,fun w=>?_,rfl⟩;go_simp
      case g5 =>
       intro v w1 hx;intro bb hbb;subst hbb;refine ⟨_,fun w=>?_,rfl⟩;go_simp
      case g6 =>
       intro v w1 hx (q4:v 4 = .slice (some ⟨b2,off2,none⟩) b.length capb) (q5:v 5 = .int .i64 k);intro bb hbb;subst hbb;refine ⟨_,fun w=>?_,rfl⟩;go_simp
      case g7 =>
       intro v w1 hx (q6:v 6 = .pointer (some ⟨b2,off2 + k,none⟩));intro bb hbb;subst hbb;have n0:w1.cell? ⟨b2,off2 + k,none⟩ = some m2:=(hdr.trans hx).cell HC2.out;intro K hK;go_simp;exact hK _ _ (Ext.refl _) rfl
      case g8 =>
       intro v w1 hx (q3:v 3 = m1) (q7:v 7 = m2);intro bb hbb;subst hbb;intro K hK;go_simp;refine Q0e (HS.out w1 (hdr.trans hx)) ?_;rintro e w2 ⟨rfl,hx2⟩;exact ⟨_,rfl,hK _ _ hx2 rfl⟩
      case g9 =>
       intro v w1 hx (q8:v 8 = .bool qd);intro bb hbb;subst hbb;refine ⟨_,fun w=>?_,rfl⟩;go_simp
      case post =>
       intro v w1 hx (q0:v 0 = .slice (some ⟨b1,off1,none⟩) a.length capa) (q1:v 1 = .int .i64 k) (q2:v 2 = .pointer (some ⟨b1,off1 + k,none⟩)) (q3:v 3 = m1) (q4:v 4 = .slice (some ⟨b2,off2,none⟩) b.length capb) (q5:v 5 = .int .i64 k) (q6:v 6 = .pointer (some ⟨b2,off2 + k,none⟩)) (q7:v 7 = m2) (q8:v 8 = .bool qd) (q9:v 9 = .bool (!qd));simp only [Flow.All,Flow.acts,Act.put];go_simp;have HX9:=Lib.hid (hxw.trans (hdr.trans hx));clear hx hdr q0 q1 q2 q3 q4 q5 q6 q7 q8 q9;cases qd with
       | true =>
         have H0:=Lib.hid (of_decide_eq_true HQ.out);go_wp2;go_roundw
         case rel=>exact ⟨k + 1,by omega,by go_num,by rw [← HR.out,HD1.out,HD2.out,X1c H0.out],HX9.out⟩
         case measure=>simp [intOf]; omega
       | false =>
         have H0:=Lib.hid (of_decide_eq_false HQ.out);go_wp2;go_ret;exact ⟨Q1q (by rw [← HR.out,HD1.out,HD2.out,X1i H0.out]),HX9.out⟩
    · go_wp2
      go_ret;exact ⟨Q1q (by rw [← HR.out,List.drop_eq_nil_of_le (by omega),List.drop_eq_nil_of_le (by have:=HLL.out; omega)]; rfl),hxw⟩
 · have hne:((a.length:Int) != (b.length:Int)) = true:=by simp; omega
   have HL:Hid (decide (a = b) = false):=by exact (decide_eq_false (fun h=>hl (by rw [h])):decide (a = b) = false)
   clear hl hca hcb;go_wp2;go_ret;exact ⟨Q1q (by rw [HL.out]),Ext.refl _⟩
end Go.Proofs
namespace Go.Proofs
open Go.RowKit Go.Tw Go.Flow
set_option maxHeartbeats 400000 in
theorem Y0j (w:World) (v:Value) (l:List Int) (hv:Q0f w v l) (hle:l.length ≤ 4096) :
    Calls Tryz.prog 23 #[v] w fun e w'=>∃ u,e = .returned u ∧ Q0q w' w.heap.size 3 (.int .i64) u l ∧ Ext w w':=by
 obtain ⟨i0,hi,hz0,hz1,hz2⟩:=info_parts Tryz.info3;obtain ⟨A,cap,rfl,hl,hcap,hc⟩:=hv.opened;have hx:=Ext.box w (.cells #[] 3);have hown:Q0q (w.alloc (.cells #[] 3)) w.heap.size 3 (Value.int .i64) (.slice (some ⟨w.heap.size,0,none⟩) 0 0) []:=World.ownsRow_made w #[] 0 (Nat.le_refl _) (by unfold maxLen; omega) rfl
 cases A with
 | none =>
   have hz:l = []:=by
    cases l with
    | nil=>rfl
    | cons x l=>obtain ⟨b,off,he,_⟩:=hc 0 (by simp); cases he
   subst hz;clear hv hc;go_enter Tryz.func23,Tryz.ntmps23;go_wp2;go_ret;exact ⟨_,rfl,hown,hx⟩
 | some a =>
   have HSRC:Hid (∀ j u,(l.map (Value.int .i64))[j]? = some u → (w.alloc (.cells #[] 3)).cell? (a.add j) = some u):=by
    exact (by
     intro j u hj;rw [List.getElem?_map] at hj;obtain ⟨y,hy,rfl⟩:=Option.map_eq_some_iff.1 hj;obtain ⟨hjl,rfl⟩:=List.getElem?_eq_some_iff.1 hy;obtain ⟨b,off,he,hcell⟩:=hc j hjl;cases he;rw [addr_add,hx.cell hcell,Q8m hjl]:∀ j u,(l.map (Value.int .i64))[j]? = some u → (w.alloc (.cells #[] 3)).cell? (a.add j) = some u)
   have HONE:Hid (∀ u ∈ l.map (Value.int .i64),u.oneCell' = true):=by
    exact (by intro u hu; obtain ⟨y,_,rfl⟩:=List.mem_map.1 hu; rfl:∀ u ∈ l.map (Value.int .i64),u.oneCell' = true)
   have HL2:Hid ((l.map (Value.int .i64)).length = l.length * 1):=by exact (by simp:(l.map (Value.int .i64)).length = l.length * 1)
   clear hv hc;go_enter Tryz.func23,Tryz.ntmps23;go_wp2_with (at_builtin; refine wpList_append_own _ rfl _ _ 39 rfl (w.heap.size) 3 i0 (.int .i64 0) 1 8 Tryz.underlying39 hi hz0 hz1 hz2 rfl (by decide) _ _ _ rfl hown a l.length cap (l.map (Value.int .i64)) rfl HL2.out HSRC.out HONE.out ?_ ?_ ?_ ?_; (focus (unfold maxLen; simp; omega)); (focus (simp; omega)); (focus (simp)); intro v' w4 hown' hgrow _; refine halted ?_)
   have hx4:Ext w w4:=Below.trans hx (below_grown hown hgrow (Nat.le_refl _) hx.size);have hown2:Q0q w4 w.heap.size 3 (.int .i64) v' l:=by
    unfold Q0q;rw [show l.length = 0 + l.length from (Nat.zero_add _).symm]
    exact hown'
   clear hown' hgrow hown hx;unfold Q3f;go_wp2;go_ret;exact ⟨_,rfl,hown2,hx4⟩
end Go.Proofs
namespace Go.Proofs
open Go.RowKit Go.Tw Go.Flow
def ch1 (n:UInt8):ByteArray:=⟨#[n]⟩
def Q0p:Tree:=⟨[⟨ch1 112,8⟩,⟨ch1 113,4⟩,⟨ch1 114,8⟩],[⟨ch1 115,1,[0,1]⟩],[⟨Q8z,0,[0,1]⟩,⟨sOr,0,[2,3]⟩]⟩
theorem Z5p {i:Nat} (hi:i < Q0p.basics.length):Short (bName Q0p.basics i):=by
 have:i = 0 ∨ i = 1 ∨ i = 2:=by simp [Q0p] at hi; omega
 rcases this with rfl | rfl | rfl <;> (show (1:Nat) ≤ _; omega)
theorem ints_at {w:World} {g:Nat} {T:TypeId} {l:List Int} (h:Blk w g T (l.map (Value.int .i64)).toArray) (hl:l.length ≤ 1000):Q0f w (.slice (some ⟨g,0,none⟩) l.length l.length) l:=by
 refine ⟨fun j=>.int .i64 (l.getD j 0),⟨some ⟨g,0,none⟩,l.length,rfl,by omega,Nat.le_refl _,fun j hj=>⟨g,0,rfl,?_⟩⟩,fun j hj=>?_⟩
 · have hj':j < l.length:=by omega
   rw [h.cell]; simp [hj']
 · simp [hj]
set_option maxRecDepth 100000 in
set_option maxHeartbeats 1000000 in
theorem Q2h (w:World) :
    Calls Tryz.prog 60 #[] w fun e w'=>∃ u,e = .returned u ∧ IsTree w' u Q0p ∧ Ext w w':=by
 go_enter Tryz.func60,Tryz.ntmps60;go_wp2_with fail;have k0:=Blk.made w 37 #[.slice (some ⟨w.heap.size + 1,0,none⟩) 3 3,.slice (some ⟨w.heap.size + 1 + 1 + 1,0,none⟩) 1 1,.slice (some ⟨w.heap.size + 1 + 1 + 1 + 1 + 1 + 1,0,none⟩) 2 2];have x0:=Ext.box w (.cells #[.slice (some ⟨w.heap.size + 1,0,none⟩) 3 3,.slice (some ⟨w.heap.size + 1 + 1 + 1,0,none⟩) 1 1,.slice (some ⟨w.heap.size + 1 + 1 + 1 + 1 + 1 + 1,0,none⟩) 2 2] 37);have es0:(w.alloc (.cells #[.slice (some ⟨w.heap.size + 1,0,none⟩) 3 3,.slice (some ⟨w.heap.size + 1 + 1 + 1,0,none⟩) 1 1,.slice (some ⟨w.heap.size + 1 + 1 + 1 + 1 + 1 + 1,0,none⟩) 2 2] 37)).heap.size = w.heap.size + 1:=by simp
 obtain ⟨X0,hX0⟩:∃ X,w.alloc (.cells #[.slice (some ⟨w.heap.size + 1,0,none⟩) 3 3,.slice (some ⟨w.heap.size + 1 + 1 + 1,0,none⟩) 1 1,.slice (some ⟨w.heap.size + 1 + 1 + 1 + 1 + 1 + 1,0,none⟩) 2 2] 37) = X:=⟨_,rfl⟩;rw [hX0] at k0 x0 es0 ⊢;clear hX0;have k1:=Blk.made X0 125 #[.string ⟨#[112]⟩,.int .i64 8,.string ⟨#[113]⟩,.int .i64 4,.string ⟨#[114]⟩,.int .i64 8];have x1:=Ext.box X0 (.cells #[.string ⟨#[112]⟩,.int .i64 8,.string ⟨#[113]⟩,.int .i64 4,.string ⟨#[114]⟩,.int .i64 8] 125);have es1:(X0.alloc (.cells #[.string ⟨#[112]⟩,.int .i64 8,.string ⟨#[113]⟩,.int .i64 4,.string ⟨#[114]⟩,.int .i64 8] 125)).heap.size = X0.heap.size + 1:=by simp
 obtain ⟨X1,hX1⟩:∃ X,X0.alloc (.cells #[.string ⟨#[112]⟩,.int .i64 8,.string ⟨#[113]⟩,.int .i64 4,.string ⟨#[114]⟩,.int .i64 8] 125) = X:=⟨_,rfl⟩;rw [hX1] at k1 x1 es1 ⊢;clear hX1;have k2:=Blk.made X1 3 #[.int .i64 0,.int .i64 1];have x2:=Ext.box X1 (.cells #[.int .i64 0,.int .i64 1] 3);have es2:(X1.alloc (.cells #[.int .i64 0,.int .i64 1] 3)).heap.size = X1.heap.size + 1:=by simp
 obtain ⟨X2,hX2⟩:∃ X,X1.alloc (.cells #[.int .i64 0,.int .i64 1] 3) = X:=⟨_,rfl⟩;rw [hX2] at k2 x2 es2 ⊢;clear hX2;have k3:=Blk.made X2 126 #[.string ⟨#[115]⟩,.int .i64 1,.slice (some ⟨w.heap.size + 1 + 1,0,none⟩) 2 2];have x3:=Ext.box X2 (.cells #[.string ⟨#[115]⟩,.int .i64 1,.slice (some ⟨w.heap.size + 1 + 1,0,none⟩) 2 2] 126);have es3:(X2.alloc (.cells #[.string ⟨#[115]⟩,.int .i64 1,.slice (some ⟨w.heap.size + 1 + 1,0,none⟩) 2 2] 126)).heap.size = X2.heap.size + 1:=by simp
 obtain ⟨X3,hX3⟩:∃ X,X2.alloc (.cells #[.string ⟨#[115]⟩,.int .i64 1,.slice (some ⟨w.heap.size + 1 + 1,0,none⟩) 2 2] 126) = X:=⟨_,rfl⟩;rw [hX3] at k3 x3 es3 ⊢;clear hX3;have k4:=Blk.made X3 3 #[.int .i64 0,.int .i64 1];have x4:=Ext.box X3 (.cells #[.int .i64 0,.int .i64 1] 3);have es4:(X3.alloc (.cells #[.int .i64 0,.int .i64 1] 3)).heap.size = X3.heap.size + 1:=by simp
 obtain ⟨X4,hX4⟩:∃ X,X3.alloc (.cells #[.int .i64 0,.int .i64 1] 3) = X:=⟨_,rfl⟩;rw [hX4] at k4 x4 es4 ⊢;clear hX4;have k5:=Blk.made X4 3 #[.int .i64 2,.int .i64 3];have x5:=Ext.box X4 (.cells #[.int .i64 2,.int .i64 3] 3);have es5:(X4.alloc (.cells #[.int .i64 2,.int .i64 3] 3)).heap.size = X4.heap.size + 1:=by simp
 obtain ⟨X5,hX5⟩:∃ X,X4.alloc (.cells #[.int .i64 2,.int .i64 3] 3) = X:=⟨_,rfl⟩;rw [hX5] at k5 x5 es5 ⊢;clear hX5;have k6:=Blk.made X5 129 #[.string ⟨#[97,110,100]⟩,.int .i64 0,.slice (some ⟨w.heap.size + 1 + 1 + 1 + 1,0,none⟩) 2 2,.string ⟨#[111,114]⟩,.int .i64 0,.slice (some ⟨w.heap.size + 1 + 1 + 1 + 1 + 1,0,none⟩) 2 2];have x6:=Ext.box X5 (.cells #[.string ⟨#[97,110,100]⟩,.int .i64 0,.slice (some ⟨w.heap.size + 1 + 1 + 1 + 1,0,none⟩) 2 2,.string ⟨#[111,114]⟩,.int .i64 0,.slice (some ⟨w.heap.size + 1 + 1 + 1 + 1 + 1,0,none⟩) 2 2] 129);have es6:(X5.alloc (.cells #[.string ⟨#[97,110,100]⟩,.int .i64 0,.slice (some ⟨w.heap.size + 1 + 1 + 1 + 1,0,none⟩) 2 2,.string ⟨#[111,114]⟩,.int .i64 0,.slice (some ⟨w.heap.size + 1 + 1 + 1 + 1 + 1,0,none⟩) 2 2] 129)).heap.size = X5.heap.size + 1:=by simp
 obtain ⟨X6,hX6⟩:∃ X,X5.alloc (.cells #[.string ⟨#[97,110,100]⟩,.int .i64 0,.slice (some ⟨w.heap.size + 1 + 1 + 1 + 1,0,none⟩) 2 2,.string ⟨#[111,114]⟩,.int .i64 0,.slice (some ⟨w.heap.size + 1 + 1 + 1 + 1 + 1,0,none⟩) 2 2] 129) = X:=⟨_,rfl⟩;rw [hX6] at k6 x6 es6 ⊢;clear hX6;replace k0:=(((((k0.ext x1).ext x2).ext x3).ext x4).ext x5).ext x6;replace k1:=((((k1.ext x2).ext x3).ext x4).ext x5).ext x6;replace k2:=(((k2.ext x3).ext x4).ext x5).ext x6;replace k3:=((k3.ext x4).ext x5).ext x6;replace k4:=(k4.ext x5).ext x6;replace k5:=k5.ext x6;have e0:X0.heap.size = w.heap.size + 1:=by omega
 have e1:X1.heap.size = w.heap.size + 1 + 1:=by omega
 have e2:X2.heap.size = w.heap.size + 1 + 1 + 1:=by omega
 have e3:X3.heap.size = w.heap.size + 1 + 1 + 1 + 1:=by omega
 have e4:X4.heap.size = w.heap.size + 1 + 1 + 1 + 1 + 1:=by omega
 have e5:X5.heap.size = w.heap.size + 1 + 1 + 1 + 1 + 1 + 1:=by omega
 have e6:X6.heap.size = w.heap.size + 1 + 1 + 1 + 1 + 1 + 1 + 1:=by omega
 rw [e0] at k1;rw [e1] at k2;rw [e2] at k3;rw [e3] at k4;rw [e4] at k5;rw [e5] at k6;have HXW:Hid (Ext w X6):=by exact (Ext.trans (Ext.trans (Ext.trans (Ext.trans (Ext.trans (Ext.trans (x0) x1) x2) x3) x4) x5) x6:Ext w X6)
 have eW:X6.heap.size = w.heap.size + 1 + 1 + 1 + 1 + 1 + 1 + 1:=e6;clear x0 es0 e0 x1 es1 e1 x2 es2 e2 x3 es3 e3 x4 es4 e4 x5 es5 e5 x6 es6 e6;obtain ⟨W,hWW⟩:∃ W,X6 = W:=⟨_,rfl⟩;rw [hWW] at HXW eW ⊢ k0 k1 k2 k3 k4 k5 k6;clear hWW;have i1:=ints_at (l:=[0,1]) k2 (by simp)
 have i2:=ints_at (l:=[0,1]) k4 (by simp)
 have i3:=ints_at (l:=[2,3]) k5 (by simp)
 refine bodyPost_ret (Q3h Tryz.results60 rfl k0 Tryz.Q2v Tryz.Q0w) rfl ?_;refine ⟨_,rfl,⟨_,_,_,rfl,⟨?_,?_,?_⟩⟩,HXW.out⟩
 · have hb:Blk W (w.heap.size + 1) 125 (Q1j enc2 3 (bF Q0p)):=k1
   exact Q6t (l:=Q0p.basics) hb (by decide) (by decide) fun i hi=>⟨rfl,Z5p hi⟩
 · have hb:Blk W (w.heap.size + 1 + 1 + 1) 126 (Q1j enc3 1 (cF Q0p fun _=>.slice (some ⟨w.heap.size + 1 + 1,0,none⟩) 2 2)):=k3
   exact Q6n (l:=Q0p.causes) hb (by decide) (by decide) fun i hi=>by
    have:i = 0:=by simp [Q0p] at hi; exact hi
    subst this;exact ⟨_,rfl,i1,by show (1:Nat) ≤ _; omega⟩
 · have hb:Blk W (w.heap.size + 1 + 1 + 1 + 1 + 1 + 1) 129 (Q1j enc3 2 (gF Q0p fun i=>if i = 0 then .slice (some ⟨w.heap.size + 1 + 1 + 1 + 1,0,none⟩) 2 2 else .slice (some ⟨w.heap.size + 1 + 1 + 1 + 1 + 1,0,none⟩) 2 2)):=k6
   exact Q8b (l:=Q0p.gates) hb (by decide) (by decide) fun i hi=>by
    have:i = 0 ∨ i = 1:=by simp [Q0p] at hi; omega
    rcases this with rfl | rfl
    · exact ⟨_,rfl,i2,by show (3:Nat) ≤ _; omega⟩
    · exact ⟨_,rfl,i3,by show (2:Nat) ≤ _; omega⟩
end Go.Proofs
namespace Go.Tw
open Go.RowKit Go.Flow
def Off (O:Nat) (w w':World):Prop:=Below O w w' ∧ w.heap.size ≤ w'.heap.size ∧ ∀ b,b < w.heap.size → b ≠ O → w'.heap[b]? = w.heap[b]?
theorem Off.refl (O:Nat) (w:World):Off O w w:=⟨Below.refl _ _,Nat.le_refl _,fun _ _ _=>rfl⟩
theorem Off.ext {O:Nat} {a b c:World} (h:Off O a b) (hx:Ext b c) (hO:O ≤ b.heap.size):Off O a c :=
 ⟨h.1.trans (hx.mono hO),Nat.le_trans h.2.1 hx.size,fun k hk hne=>(Below.block hx k (Nat.lt_of_lt_of_le hk h.2.1)).trans (h.2.2 k hk hne)⟩
theorem Off.grown {O base n size:Nat} {e:TypeId} {v:Value} {xs:List Value} {a b c:World} (h:Off O a b) (hown:b.ownsRow base e size v n xs) (hb:a.heap.size ≤ base) (hO:O ≤ a.heap.size) (hg:b.grownBy c v.ownBlock):Off O a c:=by
 have hbel:Below O b c:=Below.grown (Below.refl _ _) hg (Nat.le_trans hO h.2.1) (fun k hk=>by have:=(hown.lt k hk).1; omega)
 have hbel2:Below a.heap.size b c:=Below.grown (Below.refl _ _) hg h.2.1 (fun k hk=>by have:=(hown.lt k hk).1; omega)
 exact ⟨h.1.trans hbel,Nat.le_trans h.2.1 hbel2.size,fun k hk hne=>(hbel2.block k hk).trans (h.2.2 k hk hne)⟩
theorem Off.set {O:Nat} {a b:World} (h:Off O a b) (k:Nat) (u:Value):Off O a (b.setCell ⟨O,k,none⟩ u) :=
 ⟨h.1.setCell (p:=⟨O,k,none⟩) (Nat.le_refl _) u,by simpa using h.2.1,fun j hj hne=>(Below.heap_setCell _ _ _ _ hne).trans (h.2.2 j hj hne)⟩
theorem Q1z.off {α:Type} {w w':World} {base O k:Nat} {e:TypeId} {enc:α → List Value} {v:Value} {l:List α} (h:Q1z w base e k enc v l) (hO:O < base) (hx:Off O w w'):Q1z w' base e k enc v l:=by
 obtain ⟨h1,h2⟩:=h;refine ⟨h1,?_⟩
 rcases h2 with h2 | ⟨g,cap,cur,hv,hb,hg,r⟩
 · exact .inl h2
 · exact .inr ⟨g,cap,cur,hv,hb,by rw [hx.2.2 g (Array.getElem?_eq_some_iff.1 hg).1 (by omega)]; exact hg,r⟩
theorem Q1z.setCell {α:Type} {w:World} {base k:Nat} {e:TypeId} {enc:α → List Value} {v:Value} {l:List α} (h:Q1z w base e k enc v l) {p:Addr} (hp:p.block < base) (u:Value):Q1z (w.setCell p u) base e k enc v l :=
 h.only hp (Q7g w p u)
theorem Q4c {w w':World} {v cv:Value} {l:List Int} {base n size:Nat} {T e:TypeId} {xs:List Value} (h:Q0q w 0 T (Value.int .i64) v l) (hown:w.ownsRow base e size cv n xs) (he:e ≠ T) (hg:w.grownBy w' cv.ownBlock):Q0q w' 0 T (Value.int .i64) v l:=by
 obtain ⟨h1,h2⟩:=h;refine ⟨h1,?_⟩
 rcases h2 with h2 | ⟨g,cap,cur,hv,hb,hgl,r⟩
 · exact .inl h2
 · refine .inr ⟨g,cap,cur,hv,hb,?_,r⟩
   rw [hg.block g (Array.getElem?_eq_some_iff.1 hgl).1 ?_]; exact hgl;intro e'
   rcases hown.2 with ⟨rfl,_⟩ | ⟨g',_,cur',rfl,_,hg',_⟩
   · cases e'
   · have e2:g = g':=by simpa [Value.ownBlock] using e'
     rw [e2,hg'] at hgl;injection hgl with hgl;injection hgl with _ h3 _;exact he h3
theorem Q3l {w w':World} {cv:Value} {base n size g:Nat} {T e:TypeId} {cs:Array Value} {xs:List Value} (h:Blk w g T cs) (hown:w.ownsRow base e size cv n xs) (hb:g < base) (hg:w.grownBy w' cv.ownBlock):Blk w' g T cs:=by
 unfold Blk at *;rw [hg.block g (Array.getElem?_eq_some_iff.1 h).1 ?_]; exact h;intro e';have:=(hown.lt g e'.symm).1;omega
theorem Q6a {w:World} {v u:Value} {l:List Int} {O k:Nat} {T S:TypeId} {cs:Array Value} (h:Q0q w 0 T (Value.int .i64) v l) (hb:Blk w O S cs) (hT:S ≠ T):Q0q (w.setCell ⟨O,k,none⟩ u) 0 T (Value.int .i64) v l:=by
 obtain ⟨h1,h2⟩:=h;refine ⟨h1,?_⟩
 rcases h2 with h2 | ⟨g,cap,cur,hv,hbb,hgl,r⟩
 · exact .inl h2
 · refine .inr ⟨g,cap,cur,hv,hbb,?_,r⟩
   rw [Below.heap_setCell _ _ _ _ ?_]; exact hgl;intro e';have e2:g = O:=e';unfold Blk at hb;rw [e2,hb] at hgl;injection hgl with hgl;injection hgl with _ h3 _;exact hT h3
theorem Q1z.rowsOf {α β:Type} {w:World} {base:Nat} {e:TypeId} {k:Nat} {enc:α → List Value} {v:Value} {L:List α} {l:List β} {R:World → (Nat → Value) → β → Prop} (h:Q1z w base e k enc v L) (hlen:L.length = l.length) (hl:l.length ≤ 17592186043904)
    (hk:∀ x,(enc x).length = k) (hR:∀ j (h1:j < L.length) (h2:j < l.length),R w (fun i=>((enc L[j])[i]?).getD undef) l[j]) (hloc:∀ c c' x,(∀ i,i < k → c i = c' i) → R w c x → R w c' x):Go.Tw.Rows k R w v l:=by
 refine ⟨fun j=>((L.flatMap enc)[j]?).getD undef,?_,fun j hj=>hloc _ _ _ (fun i hi=>?_) (hR j (by omega) hj)⟩
 · obtain ⟨_,h2⟩:=h
   rw [hlen] at h2
   rcases h2 with ⟨rfl,h0⟩ | ⟨g,cap,cur,rfl,_,hg,hcap,_,_,htake⟩
   · exact ⟨none,0,by rw [h0],hl,by omega,fun j hj=>by rw [h0,Nat.zero_mul] at hj; omega⟩
   · refine ⟨some ⟨g,0,none⟩,cap,rfl,hl,hcap,fun j hj=>⟨g,0,rfl,?_⟩⟩
     rw [Nat.zero_add];have h1:=congrArg (fun l=>l[j]?) htake;simp only [List.getElem?_take,hj,if_true] at h1;have hlt:j < (L.flatMap enc).length:=by rw [Q4r hk,hlen]; exact hj
     rw [List.getElem?_eq_getElem hlt] at h1;simp only [World.cell?,hg,List.getElem?_eq_getElem hlt,Option.getD_some]
     simpa using h1
 · show ((enc L[j])[i]?).getD undef = ((L.flatMap enc)[j * k + i]?).getD undef
   rw [flat_get hk L j i (by omega) hi]
theorem Q6l {α:Type} {P:Program} {K:Value → World → Prop} {o:Oper} {a:Act} {w:World} (s x:Operand) (t:TypeId) (ho:o.op = .call { callee:=.builtin .append,args:=#[s,x],argTypes:=#[t,t] })
    (base:Nat) (e:TypeId) (i:TypeInfo) (z:Value) (k bytes:Nat) (ht:P.underlying t = some (.slice e)) (hi:P.info? e = some i) (hz:i.zero = some z) (hsize:i.size = k) (hby:i.bytes = bytes) (hzs:z.cells.size = k) (hk0:0 < k)
    (enc:α → List Value) (hk:∀ x,(enc x).length = k) (v:Value) (xs:List α) (y:α) (hs:a.eval s = v) (hown:Q1z w base e k enc v xs) (ad:Addr) (c:Nat) (hx:a.eval x = .slice (some ad) 1 c)
    (hnews:∀ j u,(enc y)[j]? = some u → w.cell? (ad.add j) = some u) (h1:∀ u ∈ enc y,u.oneCell' = true)
    (h63:xs.length + 1 ≤ 100000) (hb:bytes ≤ 1000) (hbase:base ≤ w.heap.size)
    (h:∀ v' w',Q1z w' base e k enc v' (xs ++ [y]) → w.grownBy w' v.ownBlock → K v' w'):gives P K ((execOp a.eval o).run P w):=by
 obtain ⟨v',w',hr,h2,h3,h4⟩:=run_append_own (P:=P) w base t o.type e i z k bytes ht hi hz hsize hby hzs hk0 v xs.length (xs.flatMap enc) hown ad 1 c (enc y) (by rw [hk]; omega) hnews h1 (by unfold maxLen; omega) (by
     have:(xs.length + 1) * bytes ≤ 100000 * 1000:=Nat.mul_le_mul h63 hb;omega) hbase
 unfold execOp;simp only [ho,resolve,invoke,builtin,Sem.run_bind,Sem.run_pure,Result.andThen_ok,List.map_toArray,List.map_cons,List.map_nil,hs,hx,hr];exact h v' w' (Q1z.snoc h2) h3
theorem Q7n {w:World} {g:Nat} {T:TypeId} {xs:List Value} (h:Blk w g T xs.toArray):∀ j u,xs[j]? = some u → w.cell? ((⟨g,0,none⟩:Addr).add j) = some u:=by
 intro j u hu;rw [addr_add,Nat.zero_add,h.cell]
 simpa using hu
def X3j (x:Basic):List Value:=[.string x.name,.int .i64 x.chance]
theorem Q6i (x:Basic):(X3j x).length = 2:=rfl
theorem X9g {α:Type} [Inhabited α] {l:List α} {k:Nat} (hk:k < l.length):l.take (k + 1) = l.take k ++ [l.getD k default]:=by
 rw [List.take_succ_eq_append_getElem hk]; simp [hk]
end Go.Tw
