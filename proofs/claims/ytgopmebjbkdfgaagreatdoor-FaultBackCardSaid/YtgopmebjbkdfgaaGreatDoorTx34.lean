/- Contract: the reader's integers. A tree that is read line by line: its slices grow, the lists of numbers lie in blocks of numbers. -/
import Derived.Test.YtgopmebjbkdfgaaGreatDoorTx33
set_option maxRecDepth 1000000
set_option maxHeartbeats 64000000
set_option linter.unusedVariables false
set_option linter.unusedSimpArgs false
set_option linter.constructorNameAsVariable false
namespace Go.Proofs
open Go.RowKit Go.Tw Go.Flow
theorem X9l {w w':World} {base k n:Nat} {e:TypeId} {xs:List Value} {v:Value} (h:w.ownsRow base e k v n xs) (hg:w.grownBy w' v.ownBlock):Keep e w w':=fun b S cs hS hb=>by
 have hne:some b ≠ v.ownBlock:=by
  intro e1
  rcases h.2 with ⟨rfl,_⟩ | ⟨g,cap,cur,rfl,_,hgl,_⟩
  . cases e1
  . injection e1 with e1
    subst e1;unfold Blk at hb;rw [hb] at hgl;injection hgl with hgl;injection hgl with _ h3 _;exact hS h3
 unfold Blk at hb ⊢;rw [hg.block b (Array.getElem?_eq_some_iff.1 hb).1 hne];exact hb
theorem Rd.keep {T:TypeId} {w w':World} {g:Nat} {ws:List ByteArray} {b:Bool} (h:Rd w g ws b) (h1:202 ≠ T) (h2:9 ≠ T) (hk:Keep T w w'):Rd w' g ws b:=by
 obtain ⟨A,cap,h3,h4,h5,h6,h7⟩:=h;refine ⟨A,cap,hk _ _ _ h1 h3,h4,h5,h6,?_⟩
 rcases h7 with h7 | ⟨s,off,cs,h8,h9,h10⟩
 . exact .inl h7
 . exact .inr ⟨s,off,cs,h8,hk _ _ _ h2 h9,h10⟩
def dat (x:ByteArray):List UInt8:=x.data.toList
def Z1t (b:Bool) (ws:List ByteArray) (l:List Int) (q:Bool):Prop:=(q = false -> b = false /\ numsOf (ws.map dat) = some l) /\ (q = true -> b = true ∨ numsOf (ws.map dat) = none)
theorem Z0q (b:Bool):Z1t b [] [] b:=⟨fun h=>⟨h,rfl⟩,fun h=>.inl h⟩
theorem Z4q {b:Bool} {ws:List ByteArray} {l:List Int} {q:Bool} {x:ByteArray} {n:Int} (h:Z1t b ws l q) (hn:okR x = true -> n = X5j x):Z1t b (ws ++ [x]) (l ++ [n]) (q || emB x || !okR x):=by
 have hx:numsOf [dat x] = if okR x = true then some [X5j x] else none:=by
  rw [Q6r];unfold numOf;show (if okR x = true then _ else _:Option Int).bind _ = _
  by_cases h:okR x = true
  . rw [if_pos h,if_pos h]
    unfold X5j;rw [if_pos (show Q8b x.data.toList = true from h)]
    rfl
  . rw [if_neg h,if_neg h]; rfl
 have he:okR x = true -> emB x = false:=fun h=>by
  unfold okR Q8b at h;unfold emB;rw [Bool.and_eq_true,Bool.and_eq_true,Bool.and_eq_true] at h
  simpa using h.1.1.1
 have ha:numsOf ((ws ++ [x]).map dat) = (numsOf (ws.map dat)).bind fun y=>(numsOf [dat x]).map (y ++ ·):=by
  rw [List.map_append,X7l]; rfl
 constructor
 . intro hq
   rw [Bool.or_eq_false_iff,Bool.or_eq_false_iff] at hq;have ho:okR x = true:=by simpa using hq.2
   obtain ⟨h1,h2⟩:=h.1 hq.1.1;refine ⟨h1,?_⟩;rw [ha,h2,hx,if_pos ho,hn ho];rfl
 . intro hq
   by_cases hq1:q = true
   . rcases h.2 hq1 with h1 | h1
     . exact .inl h1
     . right; rw [ha,h1]; rfl
   . rw [Bool.not_eq_true] at hq1
     have ho:¬ okR x = true:=by
      intro ho;rw [hq1,he ho,ho] at hq;cases hq
     right
     rw [ha,hx,if_neg ho];cases numsOf (ws.map dat) <;> rfl
def lenV:Value -> Nat
 | .slice _ n _=>n
 | _=>0
theorem Q5q {α:Type} {w:World} {base:Nat} {e:TypeId} {enc:α -> Value} {v:Value} {l:List α} (h:Q0s w base e enc v l):∃ A c,v = .slice A l.length c /\ l.length <= c /\ c <= maxLen:=by
 rcases h.2 with ⟨hv,hn⟩ | ⟨g,cap,cur,hv,_,_,hc,hm,_⟩
 . exact ⟨none,0,by rw [hv,hn],by omega,by unfold maxLen; omega⟩
 . exact ⟨_,cap,hv,hc,hm⟩
def Z2g (w:World) (g:Nat) (ws:List ByteArray) (b:Bool) (e:Ending) (w':World):Prop :=
 ∃ v l q,e = .returned v /\ Q0s w' w.heap.size 3 (.int .i64) v l /\ Rd w' g [] q /\ l.length = ws.length /\ Z1t b ws l q /\ Off g w w'
theorem X3k (w:World) (g:Nat) (ws:List ByteArray) (b:Bool) (h:Rd w g ws b) (hs:∀ x ∈ ws,x.size <= 5000) :
    Calls Tryz.prog 135 #[.pointer (some ⟨g,0,none⟩)] w fun e w'=>Z2g w g ws b e w':=by
 obtain ⟨i0,hi,hz0,hz1,hz2⟩:=info_parts Tryz.info3;have hglt:=h.lt;have hws:ws.length <= 10000:=by obtain ⟨_,_,_,_,h3,_⟩:=h; exact h3
 have HS:=Lib.hid hs;have H0:=Lib.hid h;clear h hs;go_enter Tryz.func135,Tryz.ntmps135;go_wp2
 go_loopw [4] (fun o wr=>∃ (k:Nat) (l:List Int) (q:Bool),k <= ws.length /\ l.length = k /\ Q0s wr w.heap.size 3 (.int .i64) o l /\ Rd wr g (ws.drop k) q /\ Z1t b (ws.take k) l q /\ Off g w wr) (fun o _=>ws.length - lenV o)
 case atStart=>exact ⟨0,[],b,Nat.zero_le _,rfl,Q0s.nil _ _ _ _,by rw [List.drop_zero]; exact H0.out,by rw [List.take_zero]; exact Z0q b,Off.refl _ _⟩
 case round =>
  obtain ⟨k,l,q,hk,hlk,hown,hrd,hir,hoff⟩:=hrel;obtain ⟨Ao,co,hsh,_,_⟩:=Q5q hown;have HSH:=Lib.hid hsh;have HRD:=Lib.hid hrd;have HIR:=Lib.hid hir;have HOFF:=Lib.hid hoff;have HLK:=Lib.hid hlk;obtain ⟨A,cap,hb,_,_,_,_⟩:=hrd;obtain ⟨N,hN⟩:∃ N,(ws.drop k).length = N:=⟨_,rfl⟩;have hN2:N = ws.length - k:=by rw [<- hN,List.length_drop]
  rw [hN] at hb;have c0:=hb.cell 0;simp only [Go.Tw.gA,Go.Tw.gB] at c0;have hwr:w.heap.size <= wr.heap.size:=hoff.2.1;clear hir hoff hb hN hlk hsh
  by_cases hlt:k < ws.length
  . have hn1:(0:Int) < N:=by omega
    have HDR:Hid (ws.drop k = ws[k] :: ws.drop (k + 1)):=Lib.hid (List.drop_eq_getElem_cons hlt);have HTK:Hid (ws.take (k + 1) = ws.take k ++ [ws[k]]):=Lib.hid (List.take_succ_eq_append_getElem hlt);have hxs:=HS.out ws[k] (List.getElem_mem hlt);obtain ⟨x,hx⟩:∃ x,ws[k] = x:=⟨_,rfl⟩;rw [hx] at HDR HTK hxs;have HXS:=Lib.hid hxs;have HR1:Hid (Rd wr g (x :: ws.drop (k + 1)) q):=Lib.hid (by rw [<- HDR.out]; exact HRD.out)
    clear hx hxs hN2;have HOWN:=Lib.hid hown;clear hown;go_wp2_with fail;refine (X6i _ _ _ _ _ HR1.out).mono ?_;rintro e w2 ⟨rfl,hr2,ho2⟩;have HR2:=Lib.hid hr2;have HOWN2:=Lib.hid (HOWN.out.only hglt ho2.2);have HOFF2:=Lib.hid (Q8f HOFF.out ho2.1 ho2.2);clear hr2 ho2 c0;go_wp2_with fail;refine (Y4k _ x HXS.out).mono ?_;rintro e w3 ⟨n,rfl,hn,hx3⟩;have HIN:=Lib.hid (Z4q HIR.out hn);rw [<- HTK.out] at HIN;have hrd3:=HR2.out.ext hx3;have HOWN3:=Lib.hid (HOWN2.out.below hx3);have HOFF3:=Lib.hid (HOFF2.out.ext hx3 (by have:=HOFF2.out.2.1; omega))
    obtain ⟨A3,cap3,hb3,hq1,hq2,hq3,hq4⟩:=hrd3;obtain ⟨q2,hq⟩:∃ y,(q || emB x) = y:=⟨_,rfl⟩
    obtain ⟨is,his⟩:∃ y,okR x = y:=⟨_,rfl⟩;rw [hq] at HIN hb3;rw [his] at HIN ⊢;have HL3:Hid ((ws.drop (k + 1)).length <= cap3 /\ (ws.drop (k + 1)).length <= 10000 /\ cap3 <= 17592186043904 /\ ∀ w4:World,(∀ k,k ≠ g -> w4.heap[k]? = w3.heap[k]?) -> (ws.drop (k + 1) = [] ∨ ∃ s off cs,A3 = some ⟨s,off,none⟩ /\ Blk w4 s 9 cs /\ ∀ j (h:j < (ws.drop (k + 1)).length),cs[off + j]? = some (.string (ws.drop (k + 1))[j]))):=by
     refine Lib.hid ⟨hq1,hq2,hq3,fun w4 ho=>?_⟩
     rcases hq4 with hq4 | ⟨s,off,cs,h6,h7,h8⟩
     . exact .inl hq4
     . exact .inr ⟨s,off,cs,h6,h7.only (fun e=>by subst e; unfold Blk at h7 hb3; rw [h7] at hb3; injection hb3 with hb3; injection hb3 with _ hb3; exact absurd hb3 (by decide)) ho,h8⟩
    obtain ⟨N3,hN3⟩:∃ N,(ws.drop (k + 1)).length = N:=⟨_,rfl⟩;rw [hN3] at hb3;have HN3:=Lib.hid hN3;have HB3:=Lib.hid hb3;have c1:=hb3.cell 1;simp only [Go.Tw.gA,Go.Tw.gB,Go.Tw.gC] at c1;clear hb3 hx3 hn hq1 hq2 hq3 hq4 hN3 hq his hn1;cases q2 with
    | true =>
      have HIN2:Hid (Z1t b (ws.take (k + 1)) (l ++ [n]) true):=HIN;replace HIN:=HIN2;clear HIN2;go_wp2_with (first | (refine Q0o rfl _ _ 4 rfl Tryz.X6m (u:=.bool true) (g:=g) (k:=1) rfl rfl rfl rfl HB3.out (by show 1 < 2; omega) ?_; intro w4 hb4 hl4 ho4; refine halted ?_))
      have HR4:Hid (Rd w4 g (ws.drop (k + 1)) true):=Lib.hid ⟨A3,cap3,by rw [HN3.out]; exact hb4,HL3.out.1,HL3.out.2.1,HL3.out.2.2.1,HL3.out.2.2.2 w4 ho4⟩
      have hown:=HOWN3.out.only hglt ho4;have HOFF4:=Lib.hid (Q8f HOFF3.out hl4 ho4);have hb0:Below 0 w w4:=HOFF4.out.1.mono (Nat.zero_le _);have hll:l.length <= 10000:=by have:=HLK.out; omega
      clear hb4 hl4 ho4 c1;unfold Q2t;go_wp2_with (at_builtin; refine wpList_append_own _ rfl _ _ 40 rfl (w.heap.size) 3 i0 (.int .i64 0) 1 8 Tryz.underlying40 hi hz0 hz1 hz2 rfl (by decide) _ _ _ rfl (World.ownsRow.alloc hown _) ⟨w4.heap.size,0,none⟩ 1 1 [.int .i64 n] rfl rfl ?_ ?_ ?_ ?_ ?_ ?_; exact Q5k _ _ _; (focus (simp [Value.oneCell'])); (focus (unfold maxLen; omega)); (focus omega); (focus (have:=hb0.size; simp at this ⊢; omega)); intro v' w1 hown' hgrow _)
      have hoff5:=(HOFF4.out.ext (Ext.box w4 (.cells #[.int .i64 n] 3)) (by have:=hb0.size; omega)).grown (World.ownsRow.alloc hown _) (Nat.le_refl _) (Nat.le_of_lt hglt) hgrow
      have hrd5:=(HR4.out.ext (Ext.box w4 (.cells #[.int .i64 n] 3))).keep (by decide) (by decide) (X9l (World.ownsRow.alloc hown _) hgrow)
      have HO5:=Lib.hid (Q0s.snoc hown');obtain ⟨A5,c5,h5,_⟩:=Q5q HO5.out;rw [h5] at HO5 ⊢;have HOF5:=Lib.hid hoff5;have HRD5:=Lib.hid hrd5;clear hown hown' hgrow hoff5 hrd5 h5 hb0 hll;go_wp2;go_roundw
      case rel=>exact ⟨k + 1,l ++ [n],true,by omega,by rw [List.length_append,HLK.out]; rfl,HO5.out,HRD5.out,HIN.out,HOF5.out⟩
      case measure =>
       rw [HSH.out];show ws.length - (l ++ [n]).length < ws.length - l.length;have:=HLK.out;rw [List.length_append];show ws.length - (l.length + 1) < _;omega
    | false =>
      cases is with
      | true =>
        replace HIN:Hid (Z1t b (ws.take (k + 1)) (l ++ [n]) false):=HIN;go_wp2_with (first | (refine Q0o rfl _ _ 4 rfl Tryz.X6m (u:=.bool false) (g:=g) (k:=1) rfl rfl rfl rfl HB3.out (by show 1 < 2; omega) ?_; intro w4 hb4 hl4 ho4; refine halted ?_))
        have HR4:Hid (Rd w4 g (ws.drop (k + 1)) false):=Lib.hid ⟨A3,cap3,by rw [HN3.out]; exact hb4,HL3.out.1,HL3.out.2.1,HL3.out.2.2.1,HL3.out.2.2.2 w4 ho4⟩
        have hown:=HOWN3.out.only hglt ho4;have HOFF4:=Lib.hid (Q8f HOFF3.out hl4 ho4);have hb0:Below 0 w w4:=HOFF4.out.1.mono (Nat.zero_le _);have hll:l.length <= 10000:=by have:=HLK.out; omega
        clear hb4 hl4 ho4 c1;unfold Q2t;go_wp2_with (at_builtin; refine wpList_append_own _ rfl _ _ 40 rfl (w.heap.size) 3 i0 (.int .i64 0) 1 8 Tryz.underlying40 hi hz0 hz1 hz2 rfl (by decide) _ _ _ rfl (World.ownsRow.alloc hown _) ⟨w4.heap.size,0,none⟩ 1 1 [.int .i64 n] rfl rfl ?_ ?_ ?_ ?_ ?_ ?_; exact Q5k _ _ _; (focus (simp [Value.oneCell'])); (focus (unfold maxLen; omega)); (focus omega); (focus (have:=hb0.size; simp at this ⊢; omega)); intro v' w1 hown' hgrow _)
        have hoff5:=(HOFF4.out.ext (Ext.box w4 (.cells #[.int .i64 n] 3)) (by have:=hb0.size; omega)).grown (World.ownsRow.alloc hown _) (Nat.le_refl _) (Nat.le_of_lt hglt) hgrow
        have hrd5:=(HR4.out.ext (Ext.box w4 (.cells #[.int .i64 n] 3))).keep (by decide) (by decide) (X9l (World.ownsRow.alloc hown _) hgrow)
        have HO5:=Lib.hid (Q0s.snoc hown');obtain ⟨A5,c5,h5,_⟩:=Q5q HO5.out;rw [h5] at HO5 ⊢;have HOF5:=Lib.hid hoff5;have HRD5:=Lib.hid hrd5;clear hown hown' hgrow hoff5 hrd5 h5 hb0 hll;go_wp2;go_roundw
        case rel=>exact ⟨k + 1,l ++ [n],false,by omega,by rw [List.length_append,HLK.out]; rfl,HO5.out,HRD5.out,HIN.out,HOF5.out⟩
        case measure =>
         rw [HSH.out];show ws.length - (l ++ [n]).length < ws.length - l.length;have:=HLK.out;rw [List.length_append];show ws.length - (l.length + 1) < _;omega
      | false =>
        replace HIN:Hid (Z1t b (ws.take (k + 1)) (l ++ [n]) true):=HIN;go_wp2_with (first | (refine Q0o rfl _ _ 4 rfl Tryz.X6m (u:=.bool true) (g:=g) (k:=1) rfl rfl rfl rfl HB3.out (by show 1 < 2; omega) ?_; intro w4 hb4 hl4 ho4; refine halted ?_))
        have HR4:Hid (Rd w4 g (ws.drop (k + 1)) true):=Lib.hid ⟨A3,cap3,by rw [HN3.out]; exact hb4,HL3.out.1,HL3.out.2.1,HL3.out.2.2.1,HL3.out.2.2.2 w4 ho4⟩
        have hown:=HOWN3.out.only hglt ho4;have HOFF4:=Lib.hid (Q8f HOFF3.out hl4 ho4);have hb0:Below 0 w w4:=HOFF4.out.1.mono (Nat.zero_le _);have hll:l.length <= 10000:=by have:=HLK.out; omega
        clear hb4 hl4 ho4 c1;unfold Q2t;go_wp2_with (at_builtin; refine wpList_append_own _ rfl _ _ 40 rfl (w.heap.size) 3 i0 (.int .i64 0) 1 8 Tryz.underlying40 hi hz0 hz1 hz2 rfl (by decide) _ _ _ rfl (World.ownsRow.alloc hown _) ⟨w4.heap.size,0,none⟩ 1 1 [.int .i64 n] rfl rfl ?_ ?_ ?_ ?_ ?_ ?_; exact Q5k _ _ _; (focus (simp [Value.oneCell'])); (focus (unfold maxLen; omega)); (focus omega); (focus (have:=hb0.size; simp at this ⊢; omega)); intro v' w1 hown' hgrow _)
        have hoff5:=(HOFF4.out.ext (Ext.box w4 (.cells #[.int .i64 n] 3)) (by have:=hb0.size; omega)).grown (World.ownsRow.alloc hown _) (Nat.le_refl _) (Nat.le_of_lt hglt) hgrow
        have hrd5:=(HR4.out.ext (Ext.box w4 (.cells #[.int .i64 n] 3))).keep (by decide) (by decide) (X9l (World.ownsRow.alloc hown _) hgrow)
        have HO5:=Lib.hid (Q0s.snoc hown');obtain ⟨A5,c5,h5,_⟩:=Q5q HO5.out;rw [h5] at HO5 ⊢;have HOF5:=Lib.hid hoff5;have HRD5:=Lib.hid hrd5;clear hown hown' hgrow hoff5 hrd5 h5 hb0 hll;go_wp2;go_roundw
        case rel=>exact ⟨k + 1,l ++ [n],true,by omega,by rw [List.length_append,HLK.out]; rfl,HO5.out,HRD5.out,HIN.out,HOF5.out⟩
        case measure =>
         rw [HSH.out];show ws.length - (l ++ [n]).length < ws.length - l.length;have:=HLK.out;rw [List.length_append];show ws.length - (l.length + 1) < _;omega
  . have hn1:¬ (0:Int) < N:=by omega
    have HE:Hid (k = ws.length):=Lib.hid (by omega)
    have HD:Hid (ws.drop k = []):=Lib.hid (List.drop_eq_nil_of_le (by omega))
    have HT:Hid (ws.take k = ws):=Lib.hid (List.take_of_length_le (by omega))
    clear hN2;go_wp2;go_ret;exact ⟨_,l,q,rfl,hown,by rw [<- HD.out]; exact HRD.out,by rw [HLK.out]; exact HE.out,by rw [<- HT.out]; exact HIR.out,HOFF.out⟩
end Go.Proofs
namespace Go.Proofs
open Go.RowKit Go.Tw Go.Flow
def Q2j (w:World) (v:Value) (l:List Int):Prop :=
 ∃ A cap,v = .slice A l.length cap /\ l.length <= cap /\ l.length <= 17592186043904 /\ (l = [] ∨ ∃ g off cs,A = some ⟨g,off,none⟩ /\ Blk w g 3 cs /\ ∀ k (h:k < l.length),cs[off + k]? = some (.int .i64 l[k]))
theorem Q2j.keep {T:TypeId} {w w':World} {v:Value} {l:List Int} (h:Q2j w v l) (hT:3 ≠ T) (hk:Keep T w w'):Q2j w' v l:=by
 obtain ⟨A,cap,h1,h2,h3,h4⟩:=h;refine ⟨A,cap,h1,h2,h3,?_⟩
 rcases h4 with h4 | ⟨g,off,cs,h5,h6,h7⟩
 . exact .inl h4
 . exact .inr ⟨g,off,cs,h5,hk _ _ _ hT h6,h7⟩
theorem Q2j.ext {w w':World} {v:Value} {l:List Int} (h:Q2j w v l) (hx:Ext w w'):Q2j w' v l:=h.keep (T:=4) (by decide) (Keep.ext hx)
theorem Q2j.ints {w:World} {v:Value} {l:List Int} (h:Q2j w v l):Q0e w v l:=by
 obtain ⟨A,cap,rfl,h2,h3,h4⟩:=h
 rcases h4 with rfl | ⟨g,off,cs,rfl,h6,h7⟩
 . exact ⟨fun _=>undef,⟨A,cap,rfl,by simp,by simp,fun j hj=>by simp at hj⟩,fun j hj=>by simp at hj⟩
 . refine ⟨fun j=>.int .i64 (l.getD j 0),⟨_,_,rfl,h3,h2,fun j hj=>⟨g,off,rfl,?_⟩⟩,fun j hj=>?_⟩
   . rw [Nat.mul_one] at hj
     rw [h6.cell,h7 j hj];simp [hj]
   . show Value.int .i64 (l.getD (j * 1 + 0) 0) = _
     simp [hj]
theorem Y7a {w:World} {base:Nat} {g c:Nat} {n:Int} {ns:List Int} (h:Q0s w base 3 (.int .i64) (.slice (some ⟨g,0,none⟩) (n :: ns).length c) (n :: ns)) (hl:ns.length <= 10000) :
    Q2j w (.slice (some ⟨g,1,none⟩) ns.length (c - 1)) ns /\ (c = 1 -> Q2j w (.slice (some ⟨g,0,none⟩) ns.length 0) ns):=by
 rcases h.2 with ⟨hv,_⟩ | ⟨g',cap,cur,hv,_,hg,hc,_,_,ht⟩
 . cases hv
 . injection hv with h1 h2 h3
   injection h1 with h1;injection h1 with h1;subst h1 h3;have hlen:(n :: ns).length = ns.length + 1:=rfl;rw [hlen] at hc ht;refine ⟨⟨_,_,rfl,by omega,by omega,?_⟩,fun h1=>⟨_,_,rfl,by omega,by omega,.inl (List.length_eq_zero_iff.1 (by omega))⟩⟩
   refine .inr ⟨g,1,cur,rfl,hg,fun k hk=>?_⟩;have h4:=congrArg (fun l=>l[1 + k]?) ht;simp only [List.getElem?_take] at h4;rw [if_pos (by omega)] at h4
   rw [<- Array.getElem?_toList,h4,Nat.add_comm 1 k];simp [hk]
def Y2u (w:World) (L:List (ByteArray × Int × Value)) (l:List (ByteArray × Int × List Int)):Prop :=
 L.length = l.length /\ ∀ i (h1:i < L.length) (h2:i < l.length),L[i].1 = l[i].1 /\ L[i].2.1 = l[i].2.1 /\ Q2j w L[i].2.2 l[i].2.2
theorem Y2u.nil (w:World):Y2u w [] []:=⟨rfl,fun _ h=>absurd h (Nat.not_lt_zero _)⟩
theorem Y2u.keep {T:TypeId} {w w':World} {L:List (ByteArray × Int × Value)} {l:List (ByteArray × Int × List Int)} (h:Y2u w L l) (hT:3 ≠ T) (hk:Keep T w w'):Y2u w' L l :=
 ⟨h.1,fun i h1 h2=>⟨(h.2 i h1 h2).1,(h.2 i h1 h2).2.1,(h.2 i h1 h2).2.2.keep hT hk⟩⟩
theorem Y2u.snoc {w:World} {L:List (ByteArray × Int × Value)} {l:List (ByteArray × Int × List Int)} (h:Y2u w L l) (n:ByteArray) (c:Int) {m:Value} {xs:List Int} (hm:Q2j w m xs):Y2u w (L ++ [(n,c,m)]) (l ++ [(n,c,xs)]):=by
 refine ⟨by simp [h.1],fun i h1 h2=>?_⟩
 by_cases hi:i < L.length
 . rw [List.getElem_append_left hi,List.getElem_append_left (by rw [<- h.1]; exact hi)]
   exact h.2 i hi (by rw [<- h.1]; exact hi)
 . have e:i = L.length:=by simp at h1; omega
   subst e;have e2:L.length = l.length:=h.1;simp only [List.getElem_concat_length];have e3:(l ++ [(n,c,xs)])[L.length] = (n,c,xs):=by simp [e2]
   rw [e3];exact ⟨rfl,rfl,hm⟩
structure Tys where
 b:TypeId
 c:TypeId
 g:TypeId
 t:TypeId
structure Tys.Ok (Y:Tys):Prop where
 bc:Y.b ≠ Y.c
 bg:Y.b ≠ Y.g
 bt:Y.b ≠ Y.t
 cg:Y.c ≠ Y.g
 ct:Y.c ≠ Y.t
 gt:Y.g ≠ Y.t
 ib:3 ≠ Y.b
 ic:3 ≠ Y.c
 ig:3 ≠ Y.g
 it:3 ≠ Y.t
structure X0y (Y:Tys) (w:World) (M O:Nat) (t:Tree) (vb vc vg:Value) (LC LG:List (ByteArray × Int × Value)):Prop where
 blk:Blk w O Y.t #[vb,vc,vg]
 bas:Q1o w M Y.b 2 X0z vb t.basics
 cau:Q1o w M Y.c 3 enc3 vc LC
 gat:Q1o w M Y.g 3 enc3 vg LG
 tc:Y2u w LC (t.causes.map Z8l)
 tg:Y2u w LG (t.gates.map Z8v)
 sb:∀ x ∈ t.basics,Short x.name
 sc:∀ x ∈ t.causes,Short x.name /\ x.members.length <= 17592186043904
 sg:∀ x ∈ t.gates,Short x.kind /\ x.inputs.length <= 17592186043904
section
variable {Y:Tys} {w w':World} {M O:Nat} {t:Tree} {vb vc vg:Value} {LC LG:List (ByteArray × Int × Value)}
theorem X0y.keep (h:X0y Y w M O t vb vc vg LC LG) {T:TypeId} (hb:Y.b ≠ T) (hc:Y.c ≠ T) (hg:Y.g ≠ T) (ht:Y.t ≠ T) (hi:3 ≠ T) (hk:Keep T w w'):X0y Y w' M O t vb vc vg LC LG :=
 ⟨hk _ _ _ ht h.blk,Q1m h.bas hb hk,Q1m h.cau hc hk,Q1m h.gat hg hk,h.tc.keep hi hk,h.tg.keep hi hk,h.sb,h.sc,h.sg⟩
theorem X0y.start {Y:Tys} {w:World} {M O:Nat} (h:Blk w O Y.t #[.slice none 0 0,.slice none 0 0,.slice none 0 0]):X0y Y w M O noT (.slice none 0 0) (.slice none 0 0) (.slice none 0 0) [] [] :=
 ⟨h,Q1o.nil _ _ _ _ _,Q1o.nil _ _ _ _ _,Q1o.nil _ _ _ _ _,Y2u.nil _,Y2u.nil _,fun _ h=>(by cases h),fun _ h=>(by cases h),fun _ h=>(by cases h)⟩
theorem X0y.J0g (hY:Y.Ok) (h:X0y Y w M O t vb vc vg LC LG) {x:Value} {wm:World} {nm:ByteArray} {n:Int} (ho:Q1o wm M Y.b 2 X0z x (t.basics ++ [⟨nm,n⟩])) (hk:Keep Y.b w wm) (hs:Short nm) :
    X0y Y (wm.setCell ⟨O,0,none⟩ x) M O ⟨t.basics ++ [⟨nm,n⟩],t.causes,t.gates⟩ x vc vg LC LG:=by
 have hb:=hk _ _ _ hY.bt.symm h.blk;have hks:=Keep.store (T:=Y.t) (w':=wm.setCell ⟨O,0,none⟩ x) hb fun _ hj=>Below.heap_setCell _ _ _ _ hj;refine ⟨hb.set 0 x,Q1m ho hY.bt hks,Q1m (Q1m h.cau hY.bc.symm hk) hY.ct hks,Q1m (Q1m h.gat hY.bg.symm hk) hY.gt hks,(h.tc.keep hY.ib hk).keep hY.it hks,(h.tg.keep hY.ib hk).keep hY.it hks,fun y hy=>?_,h.sc,h.sg⟩
 rcases List.mem_append.1 hy with hy | hy
 . exact h.sb y hy
 . rw [List.mem_singleton] at hy; subst hy; exact hs
theorem X0y.J0f (hY:Y.Ok) (h:X0y Y w M O t vb vc vg LC LG) {x v:Value} {wm:World} {nm:ByteArray} {n:Int} {ns:List Int} (ho:Q1o wm M Y.c 3 enc3 x (LC ++ [(nm,n,v)])) (hv:Q2j w v ns) (hk:Keep Y.c w wm) (hs:Short nm) :
    X0y Y (wm.setCell ⟨O,1,none⟩ x) M O ⟨t.basics,t.causes ++ [⟨nm,n,ns⟩],t.gates⟩ vb x vg (LC ++ [(nm,n,v)]) LG:=by
 have hb:=hk _ _ _ hY.ct.symm h.blk;have hks:=Keep.store (T:=Y.t) (w':=wm.setCell ⟨O,1,none⟩ x) hb fun _ hj=>Below.heap_setCell _ _ _ _ hj;have hl:ns.length <= 17592186043904:=by obtain ⟨_,_,_,_,h3,_⟩:=hv; exact h3
 refine ⟨hb.set 1 x,Q1m (Q1m h.bas hY.bc hk) hY.bt hks,Q1m ho hY.ct hks,Q1m (Q1m h.gat hY.cg.symm hk) hY.gt hks,?_,(h.tg.keep hY.ic hk).keep hY.it hks,h.sb,fun y hy=>?_,h.sg⟩
 . rw [List.map_append]
   exact ((h.tc.snoc nm n hv).keep hY.ic hk).keep hY.it hks
 . rcases List.mem_append.1 hy with hy | hy
   . exact h.sc y hy
   . rw [List.mem_singleton] at hy; subst hy; exact ⟨hs,hl⟩
theorem X0y.J0d (hY:Y.Ok) (h:X0y Y w M O t vb vc vg LC LG) {x v:Value} {wm:World} {nm:ByteArray} {n:Int} {ns:List Int} (ho:Q1o wm M Y.g 3 enc3 x (LG ++ [(nm,n,v)])) (hv:Q2j w v ns) (hk:Keep Y.g w wm) (hs:Short nm) :
    X0y Y (wm.setCell ⟨O,2,none⟩ x) M O ⟨t.basics,t.causes,t.gates ++ [⟨nm,n,ns⟩]⟩ vb vc x LC (LG ++ [(nm,n,v)]):=by
 have hb:=hk _ _ _ hY.gt.symm h.blk;have hks:=Keep.store (T:=Y.t) (w':=wm.setCell ⟨O,2,none⟩ x) hb fun _ hj=>Below.heap_setCell _ _ _ _ hj;have hl:ns.length <= 17592186043904:=by obtain ⟨_,_,_,_,h3,_⟩:=hv; exact h3
 refine ⟨hb.set 2 x,Q1m (Q1m h.bas hY.bg hk) hY.bt hks,Q1m (Q1m h.cau hY.cg hk) hY.ct hks,Q1m ho hY.gt hks,(h.tc.keep hY.ig hk).keep hY.it hks,?_,h.sb,h.sc,fun y hy=>?_⟩
 . rw [List.map_append]
   exact ((h.tg.snoc nm n hv).keep hY.ig hk).keep hY.it hks
 . rcases List.mem_append.1 hy with hy | hy
   . exact h.sg y hy
   . rw [List.mem_singleton] at hy; subst hy; exact ⟨hs,hl⟩
theorem Y2u.causes {T:TypeId} {base:Nat} {v:Value} {L:List (ByteArray × Int × Value)} {l:List Q9i} (h:Y2u w L (l.map Z8l)) (ho:Q1o w base T 3 enc3 v L) (hl:l.length <= 100000) (hs:∀ x ∈ l,Short x.name /\ x.members.length <= 17592186043904):Q3n w v l:=by
 have hlen:L.length = l.length:=by rw [h.1,List.length_map]
 refine ho.rowsOf hlen (by omega) Q0u (fun j h1 h2=>?_) (fun c c' x hc h=>?_)
 . obtain ⟨e1,e2,e3⟩:=h.2 j h1 (by rw [List.length_map]; exact h2)
   have hsj:=hs l[j] (List.getElem_mem h2);simp only [List.getElem_map,Z8l] at e1 e2 e3;refine ⟨?_,?_,?_,hsj.1⟩
   . show Value.string L[j].1 = _; rw [e1]
   . show Value.int .i64 L[j].2.1 = _; rw [e2]
   . exact e3.ints
 . obtain ⟨h1,h2,h3,h4⟩:=h
   exact ⟨by rw [<- hc 0 (by omega)]; exact h1,by rw [<- hc 1 (by omega)]; exact h2,by rw [<- hc 2 (by omega)]; exact h3,h4⟩
theorem Y2u.gates {T:TypeId} {base:Nat} {v:Value} {L:List (ByteArray × Int × Value)} {l:List Gate} (h:Y2u w L (l.map Z8v)) (ho:Q1o w base T 3 enc3 v L) (hl:l.length <= 100000) (hs:∀ x ∈ l,Short x.kind /\ x.inputs.length <= 17592186043904):Q4b w v l:=by
 have hlen:L.length = l.length:=by rw [h.1,List.length_map]
 refine ho.rowsOf hlen (by omega) Q0u (fun j h1 h2=>?_) (fun c c' x hc h=>?_)
 . obtain ⟨e1,e2,e3⟩:=h.2 j h1 (by rw [List.length_map]; exact h2)
   have hsj:=hs l[j] (List.getElem_mem h2);simp only [List.getElem_map,Z8v] at e1 e2 e3;refine ⟨?_,?_,?_,hsj.1⟩
   . show Value.string L[j].1 = _; rw [e1]
   . show Value.int .i64 L[j].2.1 = _; rw [e2]
   . exact e3.ints
 . obtain ⟨h1,h2,h3,h4⟩:=h
   exact ⟨by rw [<- hc 0 (by omega)]; exact h1,by rw [<- hc 1 (by omega)]; exact h2,by rw [<- hc 2 (by omega)]; exact h3,h4⟩
theorem X0y.tree (h:X0y Y w M O t vb vc vg LC LG) (hl:t.basics.length + t.causes.length + t.gates.length <= 10000):Q5t w vb vc vg t:=by
 refine ⟨?_,h.tc.causes h.cau (by omega) h.sc,h.tg.gates h.gat (by omega) h.sg⟩
 refine h.bas.rows (by omega) Q9y (fun x hx=>⟨rfl,rfl,h.sb x hx⟩) (fun c c' x hc h=>?_)
 obtain ⟨h1,h2,h3⟩:=h;exact ⟨by rw [<- hc 0 (by omega)]; exact h1,by rw [<- hc 1 (by omega)]; exact h2,h3⟩
end
end Go.Proofs
