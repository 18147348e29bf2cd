/- Plain law: the sorted minimal sets are the reference's sets. Contracts: the error of a set of events; Fails. Contracts: States and Single of the program. Contracts: Cuts and Paths. Contract: Single. Contracts: probability, Chance. Loads of a part of a block. -/
import Derived.Test.YtgopmebjbkdfgaaGreatDoorMz12
import Derived.Test.YtgopmebjbkdfgaaGreatDoorMz09
import Derived.Test.YtgopmebjbkdfgaaGreatDoorMz05
set_option maxRecDepth 1000000
set_option maxHeartbeats 64000000
set_option linter.unusedVariables false
set_option linter.unusedSimpArgs false
set_option linter.constructorNameAsVariable false
namespace Go.Proofs
open Go.RowKit Go.Tw Go.Flow
theorem Y4j:∀ a b:List Int,a.length = b.length -> (Z5c a b = true ↔ cmpL a b < 0)
 | [],[],_=>by simp [Z5c,cmpL]
 | [],_ :: _,h=>by simp at h
 | _ :: _,[],h=>by simp at h
 | x :: l,y :: m,h=>by
   rw [Q7h];show (if x = y then Z5c l m else decide (x < y)) = true ↔ _
   split
   . rename_i hxy
     rw [Y4j l m (by simpa using h)]
     simp [hxy]
   . rename_i hxy
     simp [hxy]
theorem Y1m (a b:List Int):X0w a b = true ↔ Q5w a b < 0:=by
 rw [X0t];unfold X0w
 split
 . rename_i h; rw [Y4j _ _ h]; simp [h]
 . rename_i h; simp [h]
theorem Y9g {a b:List Int} (h:Q5w a b < 0):¬ Q5w b a < 0:=fun h'=>X4l _ (Q8z h h')
theorem Y9y (l:List Int) (out:List (List Int)):∀ n,(Q6b l out n = 0 ∨ ∃ k,Q6b l out n = k + 1 /\ X0w l (out.getD k []) = false) /\ ∀ i,Q6b l out n <= i -> i < n -> X0w l (out.getD i []) = true
 | 0=>⟨.inl rfl,fun i _ h=>by omega⟩
 | n + 1=>by
   have ih:=Y9y l out n;cases h:X0w l (out.getD n []) with
   | true =>
     have e:Q6b l out (n + 1) = Q6b l out n:=by show (if X0w l (out.getD n []) then _ else _) = _; rw [h]; rfl
     rw [e];refine ⟨ih.1,fun i h1 h2=>?_⟩
     by_cases hi:i = n
     . rw [hi]; exact h
     . exact ih.2 i h1 (by omega)
   | false =>
     have e:Q6b l out (n + 1) = n + 1:=by show (if X0w l (out.getD n []) then _ else _) = _; rw [h]; rfl
     rw [e];exact ⟨.inr ⟨n,rfl,h⟩,fun i h1 h2=>by omega⟩
theorem insert_sorted {l:List Int} {out:List (List Int)} (h:Sorted out):Sorted (Q6t l out):=by
 have hp:=Y0l l out out.length;obtain ⟨h1,h2⟩:=Y9y l out out.length;unfold Q6t;obtain ⟨p,hpe⟩:∃ p,Q6b l out out.length = p:=⟨_,rfl⟩;rw [hpe] at h1 h2 hp ⊢;unfold Sorted at *;have hsplit:(out.take p ++ out.drop p).Pairwise fun a b=>¬ Q5w b a < 0:=by rw [List.take_append_drop]; exact h
 rw [List.pairwise_append] at hsplit;obtain ⟨s1,s2,s3⟩:=hsplit;rw [List.append_assoc,List.pairwise_append];refine ⟨s1,?_,?_⟩
 . rw [List.singleton_append,List.pairwise_cons]
   refine ⟨fun b hb=>?_,s2⟩;obtain ⟨i,hi,rfl⟩:=List.getElem_of_mem hb;rw [List.length_drop] at hi;have:=h2 (p + i) (by omega) (by omega)
   rw [Y1m] at this;have e:out.getD (p + i) [] = (out.drop p)[i]'(by rw [List.length_drop]; omega):=by simp [show p + i < out.length by omega]
   rw [e] at this;exact Y9g this
 . intro a ha b hb
   rw [List.singleton_append] at hb
   rcases List.mem_cons.1 hb with rfl | hb
   . rcases h1 with h1 | ⟨k,h1,hk⟩
     . subst h1; simp at ha
     . have hkl:k < out.length:=by omega
       have hk':¬ Q5w b (out.getD k []) < 0:=fun hh=>by rw [<- Y1m,hk] at hh; cases hh
       have e:out.getD k [] = out[k]:=by simp [hkl]
       rw [e] at hk';obtain ⟨i,hi,rfl⟩:=List.getElem_of_mem ha;rw [List.length_take] at hi;rw [List.getElem_take]
       by_cases hik:i = k
       . subst hik; exact hk'
       . have:=List.pairwise_iff_getElem.1 h i k (by omega) hkl (by omega)
         intro hh
         rcases X4z out[i] out[k] with h5 | h5 | h5
         . exact hk' (Q8z hh h5)
         . rw [h5] at hh; exact hk' hh
         . exact this h5
   . exact s3 a ha b hb
theorem insert_perm (l:List Int) (out:List (List Int)):(Q6t l out).Perm (l :: out):=by
 unfold Q6t;have e:out.take (Q6b l out out.length) ++ out.drop (Q6b l out out.length) = out:=List.take_append_drop _ _;rw [List.append_assoc,List.singleton_append];refine List.perm_middle.trans ?_;rw [e]
theorem Y3b (t:Tree) (p:Bool) (n:Nat):Sorted (X1i t p n):=by
 induction n with
 | zero=>exact List.Pairwise.nil
 | succ n ih =>
   rw [X7u]
   split
   . exact insert_sorted ih
   . exact ih
theorem X0l (t:Tree) (p:Bool) (n:Nat):(X1i t p n).Perm (((List.range n).filter fun s=>t.Q6z (bitsOf s) p).map bitsOf):=by
 induction n with
 | zero=>simp [X1i]
 | succ n ih =>
   rw [X7u,List.range_succ,List.filter_append,List.map_append];cases h:t.Q6z (bitsOf n) p with
   | true =>
     rw [if_pos rfl];refine (insert_perm _ _).trans ?_;simp only [List.filter_cons,h,if_true,List.filter_nil,List.map_cons,List.map_nil];exact ((ih.cons _)).trans (List.perm_append_singleton _ _).symm
   | false =>
     simp only [List.filter_cons,h,Bool.false_eq_true,if_false,List.filter_nil,List.map_nil,List.append_nil];exact ih
theorem Z6f {a b:List (List Int)} (ha:Sorted a) (hb:Sorted b) (h:a.Perm b):a = b :=
 List.Perm.eq_of_pairwise (le:=fun a b=>¬ Q5w b a < 0) (fun x y _ _ h1 h2=>by
  rcases X4z x y with h | h | h
  . exact absurd h h2
  . exact h
  . exact absurd h h1) ha hb h
theorem X2o {α:Type} [BEq α] [LawfulBEq α]:∀ (l:List α) (k:Nat) (h:k < l.length),l.Nodup -> l.take k ++ l.drop (k + 1) = l.filter (· != l[k])
 | x :: l,0,_,hn=>by
   rw [List.nodup_cons] at hn;simp only [List.take_zero,List.nil_append,List.drop_succ_cons,List.drop_zero,List.getElem_cons_zero,List.filter_cons,bne_self_eq_false,Bool.false_eq_true,if_false]
   symm
   rw [List.filter_eq_self];intro a ha;rw [bne_iff_ne];intro e; exact hn.1 (e ▸ ha)
 | x :: l,k + 1,h,hn=>by
   have h':k < l.length:=by simpa using h
   rw [List.nodup_cons] at hn;have hne:(x != l[k]) = true:=by rw [bne_iff_ne]; intro e; exact hn.1 (e ▸ List.getElem_mem h')
   simp only [List.take_succ_cons,List.drop_succ_cons,List.getElem_cons_succ,List.filter_cons,hne,if_true,List.cons_append];rw [X2o l k h' hn.2]
theorem Y2f {α:Type} (l:List α) (g:Nat -> Bool) (f:α -> Bool) (h:∀ k (hk:k < l.length),g k = f l[k]):(List.range l.length).any g = l.any f:=by
 rw [Bool.eq_iff_iff,List.any_eq_true,List.any_eq_true]
 constructor
 . rintro ⟨k,hk,hg⟩
   have hk:=List.mem_range.1 hk;exact ⟨l[k],List.getElem_mem hk,by rw [<- h k hk]; exact hg⟩
 . rintro ⟨x,hx,hf⟩
   obtain ⟨k,hk,rfl⟩:=List.getElem_of_mem hx;exact ⟨k,List.mem_range.2 hk,by rw [h k hk]; exact hf⟩
theorem Y5w (s k:Nat) (h:k < ((List.range 16).filter (s.testBit ·)).length):without (bitsOf s) k = bitsOf (Q2j s (2 ^ ((List.range 16).filter (s.testBit ·))[k])):=by
 unfold without bitsOf;rw [<- List.map_take,<- List.map_drop,<- List.map_append,X2o _ _ h (List.Pairwise.filter _ List.nodup_range),List.filter_filter]
 congr 1
 apply List.filter_congr
 intro j _;rw [Q2o,Nat.testBit_two_pow];obtain ⟨i,hi⟩:∃ i,((List.range 16).filter (s.testBit ·))[k] = i:=⟨_,rfl⟩;rw [hi]
 by_cases hij:j = i
 . subst hij; simp
 . have h2:¬ i = j:=fun e=>hij e.symm
   have h3:(j != i) = true:=by simpa using hij
   rw [h3,decide_eq_false h2,Bool.true_and,Bool.not_false,Bool.and_true]
theorem X8e {t:Tree} {p:Bool} {q:Nat -> Bool} {n s:Nat} (hn:n <= 12) (hs:s < 2 ^ n) (hq:∀ s,s < 2 ^ n -> q s = t.setB (bitsOf s) p):X2u q n s = t.Q6z (bitsOf s) p:=by
 unfold X2u Tree.Q6z;rw [hq s hs]
 congr 1
 rw [List.all_eq_not_any_not]
 congr 1
 have hl:(bitsOf s).length = ((List.range 16).filter (s.testBit ·)).length:=by unfold bitsOf; rw [List.length_map]
 rw [hl,Y2f _ _ (fun i=>t.setB (bitsOf (Q2j s (2 ^ i))) p) (fun k hk=>by rw [Y5w s k hk])]
 rw [Bool.eq_iff_iff,List.any_eq_true,List.any_eq_true]
 constructor
 . rintro ⟨i,hi,h⟩
   have hi:=List.mem_range.1 hi;simp only [Bool.not_not,Bool.and_eq_true] at h;refine ⟨i,List.mem_filter.2 ⟨List.mem_range.2 (by omega),h.1⟩,?_⟩
   rw [<- hq _ (Q8n _ hs)]; exact h.2
 . rintro ⟨i,hi,h⟩
   obtain ⟨_,h2⟩:=List.mem_filter.1 hi;have h2:s.testBit i = true:=h2;have hin:i < n:=by
    apply Nat.lt_of_not_le
    intro hge;rw [Nat.testBit_lt_two_pow (Nat.lt_of_lt_of_le hs (Nat.pow_le_pow_right (by omega) hge))] at h2
    cases h2
   refine ⟨i,List.mem_range.2 hin,?_⟩;rw [Bool.not_not,Bool.and_eq_true];exact ⟨h2,by rw [hq _ (Q8n _ hs)]; exact h⟩
theorem X7o {t:Tree} {p:Bool} {q:Nat -> Bool} (hs:t.size <= 12) (hq:∀ s,s < 2 ^ t.size -> q s = t.setB (bitsOf s) p) {ll:List (List Int)} (h:ll.Perm (minL q t.size (List.finRange (2 ^ t.size)))) (hso:Sorted ll):ll = t.sets p:=by
 have e:t.sets p = X1i t p (2 ^ t.size):=rfl;rw [e];refine Z6f hso (Y3b _ _ _) (h.trans ?_);refine List.Perm.trans ?_ (X0l t p _).symm;have e2:minL q t.size (List.finRange (2 ^ t.size)) = ((List.range (2 ^ t.size)).filter fun s=>t.Q6z (bitsOf s) p).map bitsOf:=by
  unfold minL;have e3:List.range (2 ^ t.size) = (List.finRange (2 ^ t.size)).map (·.1):=by
   apply List.ext_getElem <;> simp
  rw [e3,List.filter_map,List.map_map]
  congr 1
  apply List.filter_congr
  intro x _;exact X8e hs x.2 hq
 rw [e2]
theorem Z2y {t:Tree} {s:Nat} (hs:t.size <= 12) (h:s < 2 ^ t.size):evL (others t.size (bitsOf s)) = evN (Q4i t s):=by
 have h16:s < 65536:=Nat.lt_of_lt_of_le h (Nat.le_trans (Nat.pow_le_pow_right (n:=2) (by omega) hs) (by decide))
 funext i
 have hb:has (bitsOf s) (i:Int) = s.testBit i:=congrFun (Z1e h16) i;unfold evL evN Q4i;rw [Q2o,Nat.testBit_two_pow_sub_one,<- hb];rw [Bool.eq_iff_iff,X1b];unfold others;simp only [List.mem_filter,List.mem_map,List.mem_range,Bool.and_eq_true,decide_eq_true_eq]
 constructor
 . rintro ⟨⟨a,ha,he⟩,h2⟩
   have:a = i:=by have:(a:Int) = (i:Int):=he; omega
   exact ⟨by omega,h2⟩
 . rintro ⟨h1,h2⟩
   exact ⟨⟨i,h1,rfl⟩,h2⟩
theorem Y8c {t:Tree} (hs:t.size <= 12) {s:Nat} (h:s < 2 ^ t.size):t.fails (evN s) = t.setB (bitsOf s) false:=by
 have h16:s < 65536:=Nat.lt_of_lt_of_le h (Nat.le_trans (Nat.pow_le_pow_right (n:=2) (by omega) hs) (by decide))
 unfold Tree.setB; rw [Z1e h16]; rfl
theorem Z0g {t:Tree} (hs:t.size <= 12) {s:Nat} (h:s < 2 ^ t.size):(!t.fails (evN (Q4i t s))) = t.setB (bitsOf s) true:=by
 unfold Tree.setB; rw [Z2y hs h]; rfl
end Go.Proofs
namespace Go.Proofs
open Go.RowKit Go.Tw Go.Flow
def Q0l (t:Tree) (l:List Int):Int:=if t.err = 0 then Q1l l t.size else t.err
theorem Y0n (t:Tree) (l:List Int):Q1l l ((t.basics.length:Int) + (t.causes.length:Int)) = Q1l l t.size:=by
 unfold Tree.size; rw [Int.natCast_add]
theorem Q4o {t:Tree} {l:List Int} (h:Q0l t l = 0):Valid t /\ Q1l l t.size = 0:=by
 unfold Q0l at h
 split at h
 . rename_i h0; exact ⟨Valid.of h0,h⟩
 . rename_i h0; exact absurd h h0
theorem Z0f {l:List Int} (h:∀ x ∈ l,0 <= x):evN (Q1s l) = evL l:=by
 funext i; unfold evN evL; exact X5p h i
def X2q (t:Tree) (l:List Int):Bool:=if Q0l t l = 0 then t.fails (evL l) else false
theorem Q6h (w:World) (v u:Value) (t:Tree) (l:List Int) (ht:IsTree w v t) (hl:Q0f w u l) :
    Calls Tryz.prog 75 #[v,u] w fun e w'=>e = .returned (.int .i64 (Q0l t l)) /\ Ext w w':=by
 obtain ⟨a,b,c,rfl,h3⟩:=ht;obtain ⟨A,capa,rfl,hl1,hcap1,_⟩:=h3.basics.opened;obtain ⟨B,capb,rfl,hl2,hcap2,_⟩:=h3.causes.opened;obtain ⟨G,capg,rfl,hl3,hcap3,_⟩:=h3.gates.opened;have hxW:=Ext.box w (.cells #[.slice A t.basics.length capa,.slice B t.causes.length capb,.slice G t.gates.length capg] 33);have k0:=Blk.made w 33 #[.slice A t.basics.length capa,.slice B t.causes.length capb,.slice G t.gates.length capg];have HT:=Lib.hid (h3.ext hxW);have HL:=Lib.hid hl;have HX:=Lib.hid hxW;clear h3 hl hxW;go_enter Tryz.func75,Tryz.ntmps75;go_wp2_with fail;refine (Q1y _ _ t ⟨_,_,_,rfl,HT.out⟩).mono ?_;rintro e w1 ⟨rfl,hx1⟩;have k1:=k0.ext hx1;have c0:=k1.cell 0;have c1:=k1.cell 1;simp only [Go.Tw.gA,Go.Tw.gB,Go.Tw.gC] at c0 c1;have hxx:=HX.out.trans hx1;clear k0 k1
 by_cases he:t.err = 0
 . have hr:Q0l t l = Q1l l t.size:=by unfold Q0l; rw [if_pos he]
   have HR:=Lib.hid hr;have hne:(t.err != 0) = false:=by simp [he]
   clear he hr;go_wp2_with fail;refine (Q6l _ _ l _ (HL.out.ext hxx)).mono ?_;rintro e w2 ⟨rfl,hx2⟩;go_wp2;go_ret;exact ⟨Q1c (by rw [HR.out,Y0n]),hxx.trans hx2⟩
 . have hr:Q0l t l = t.err:=by unfold Q0l; rw [if_neg he]
   have HR:=Lib.hid hr;have hne:(t.err != 0) = true:=by simp [he]
   clear he hr;go_wp2;go_ret;exact ⟨Q1c HR.out.symm,hxx⟩
theorem Y0t (w:World) (v u:Value) (t:Tree) (l:List Int) (ht:IsTree w v t) (hl:Q0f w u l) :
    Calls Tryz.prog 31 #[v,u] w fun e w'=>e = .returned (.tuple #[.bool (X2q t l),.int .i64 (Q0l t l)]) /\ Ext w w':=by
 obtain ⟨a,b,c,rfl,h3⟩:=ht;obtain ⟨A,capa,rfl,hl1,hcap1,_⟩:=h3.basics.opened;obtain ⟨B,capb,rfl,hl2,hcap2,_⟩:=h3.causes.opened;obtain ⟨G,capg,rfl,hl3,hcap3,_⟩:=h3.gates.opened;have hxW:=Ext.box w (.cells #[.slice A t.basics.length capa,.slice B t.causes.length capb,.slice G t.gates.length capg] 33);have k0:=Blk.made w 33 #[.slice A t.basics.length capa,.slice B t.causes.length capb,.slice G t.gates.length capg];have HT:=Lib.hid (h3.ext hxW);have HL:=Lib.hid (hl.ext hxW);have HX:=Lib.hid hxW;clear h3 hl hxW;go_enter Tryz.func31,Tryz.ntmps31;go_wp2_with fail;refine (Q6h _ _ _ t l ⟨_,_,_,rfl,HT.out⟩ HL.out).mono ?_;rintro e w1 ⟨rfl,hx1⟩;have k1:=k0.ext hx1;have c0:=k1.cell 0;have c1:=k1.cell 1;have c2:=k1.cell 2;simp only [Go.Tw.gA,Go.Tw.gB,Go.Tw.gC] at c0 c1 c2;have HXX:=Lib.hid (HX.out.trans hx1);have HX1:=Lib.hid hx1;clear k0 k1 hx1
 by_cases he:Q0l t l = 0
 . have hz:=Q4o he
   have hs:=Q2h hz.2;have HV:=Lib.hid hz.1;have HSZ:=Lib.hid hs.1;have HR:Hid (X2q t l = t.fails (evN (Q1s l))):=by
    exact (by unfold X2q; rw [if_pos he,Z0f (fun x hx=>(hs.1 x hx).1)]:X2q t l = t.fails (evN (Q1s l)))
   have hne:(Q0l t l != 0) = false:=by simp [he]
   have HE0:=Lib.hid he;have hsz:=hz.1.size;have hs1:0 < t.size:=by have:=hz.1.nb; unfold Tree.size; omega
   have HS1:=Lib.hid hs1;clear he hz hs hs1;go_wp2_with fail;refine (Q3p _ _ t HV.out ⟨_,_,_,rfl,HT.out.ext HX1.out⟩).mono ?_;rintro e w2 ⟨fv,gv,rfl,hn,hx2⟩;have HN:=Lib.hid hn;have HX2:=Lib.hid hx2;clear hn hx2;go_wp2_with fail;refine (X3y _ _ l (HL.out.ext (HX1.out.trans HX2.out)) (fun x hx=>by have:=HSZ.out x hx; omega)).mono ?_
   rintro e w3 ⟨rfl,rfl⟩;go_wp2_with fail;refine (Q9k _ _ _ t _ _ HV.out (X0r HS1.out (fun x hx=>(HSZ.out x hx).2)) HN.out).mono ?_;rintro e w4 ⟨rfl,hx4⟩;go_wp2;refine bodyPost_ret (v:=.tuple #[.bool (X2q t l),.int .i64 (Q0l t l)]) (by rw [HR.out,HE0.out]; simp [results,Tryz.results31,go_sem]) rfl ?_
   exact ⟨rfl,(HXX.out.trans HX2.out).trans hx4⟩
 . have HR:Hid (X2q t l = false):=Lib.hid (by unfold X2q; rw [if_neg he])
   have hne:(Q0l t l != 0) = true:=by simp [he]
   clear he;go_wp2;refine bodyPost_ret (v:=.tuple #[.bool (X2q t l),.int .i64 (Q0l t l)]) (by rw [HR.out]; simp [results,Tryz.results31,go_sem]) rfl ?_
   exact ⟨rfl,HXX.out⟩
end Go.Proofs
namespace Go.Proofs
open Go.RowKit Go.Tw Go.Flow
def X3f (t:Tree) (l:List Int):List Bool:=if Q0l t l = 0 then t.states (evL l) else []
theorem J4a {l:List Bool} {k:Nat} (h:k < l.length):l.take (k + 1) = l.take k ++ [bx l k]:=by
 rw [List.take_succ_eq_append_getElem h]; simp [bx,h]
theorem Y7l (w:World) (v u:Value) (t:Tree) (l:List Int) (ht:IsTree w v t) (hl:Q0f w u l) :
    Calls Tryz.prog 33 #[v,u] w fun e w'=>∃ x,e = .returned (.tuple #[x,.int .i64 (Q0l t l)]) /\ Q6f w' x (X3f t l) /\ Ext w w':=by
 obtain ⟨i0,hi,hz0,hz1,hz2⟩:=info_parts Tryz.info4;obtain ⟨a,b,c,rfl,h3⟩:=ht;obtain ⟨A,capa,rfl,hl1,hcap1,_⟩:=h3.basics.opened;obtain ⟨B,capb,rfl,hl2,hcap2,_⟩:=h3.causes.opened;obtain ⟨G,capg,rfl,hl3,hcap3,_⟩:=h3.gates.opened;have hxW:=Ext.box w (.cells #[.slice A t.basics.length capa,.slice B t.causes.length capb,.slice G t.gates.length capg] 33);have k0:=Blk.made w 33 #[.slice A t.basics.length capa,.slice B t.causes.length capb,.slice G t.gates.length capg];have HT:=Lib.hid (h3.ext hxW);have HL:=Lib.hid (hl.ext hxW);have HX:=Lib.hid hxW;clear h3 hl hxW;go_enter Tryz.func33,Tryz.ntmps33;go_wp2_with fail;refine (Q6h _ _ _ t l ⟨_,_,_,rfl,HT.out⟩ HL.out).mono ?_;rintro e w1 ⟨rfl,hx1⟩;have k1:=k0.ext hx1;have c0:=k1.cell 0;have c1:=k1.cell 1;have c2:=k1.cell 2;simp only [Go.Tw.gA,Go.Tw.gB,Go.Tw.gC] at c0 c1 c2;have HXX:=Lib.hid (HX.out.trans hx1);have HX1:=Lib.hid hx1;have HK1:=Lib.hid k1;clear k0 k1 hx1
 by_cases he:Q0l t l = 0
 . have hz:=Q4o he
   have hs:=Q2h hz.2;have HV:=Lib.hid hz.1;have HSZ:=Lib.hid hs.1;have HR:Hid (X3f t l = t.states (evN (Q1s l))):=by
    exact (by unfold X3f; rw [if_pos he,Z0f (fun x hx=>(hs.1 x hx).1)]:X3f t l = t.states (evN (Q1s l)))
   have hne:(Q0l t l != 0) = false:=by simp [he]
   have HE0:=Lib.hid he;have hsz:=hz.1.size;have hng:=hz.1.ng';have hs1:0 < t.size:=by have:=hz.1.nb; unfold Tree.size; omega
   have hnb:t.basics.length <= 12:=by unfold Tree.size at hsz; omega
   have HS1:=Lib.hid hs1;clear he hz hs hs1;go_wp2_with fail;refine (Q3p _ _ t HV.out ⟨_,_,_,rfl,HT.out.ext HX1.out⟩).mono ?_;rintro e w2 ⟨fv,gv,rfl,hn,hx2⟩;have HN:=Lib.hid hn;have HX2:=Lib.hid hx2;clear hn hx2;go_wp2_with fail;refine (X3y _ _ l (HL.out.ext (HX1.out.trans HX2.out)) (fun x hx=>by have:=HSZ.out x hx; omega)).mono ?_
   rintro e w3 ⟨rfl,rfl⟩;go_wp2_with fail;refine (X9g _ _ _ t _ _ HV.out (X0r HS1.out (fun x hx=>(HSZ.out x hx).2)) HN.out).mono ?_;rintro e w4 ⟨rfl,hx4⟩;have c0':=(HK1.out.ext (HX2.out.trans hx4)).cell 0;have c2':=(HK1.out.ext (HX2.out.trans hx4)).cell 2;simp only [Go.Tw.gA,Go.Tw.gB,Go.Tw.gC] at c0' c2';have HX4:=Lib.hid ((HXX.out.trans HX2.out).trans hx4);obtain ⟨S,hS⟩:∃ S,t.states (evN (Q1s l)) = S:=⟨_,rfl⟩;have hSl:S.length = t.basics.length + t.gates.length:=by rw [<- hS]; exact Q7v t _ _
   have hXb:Q5g S < 2 ^ 62:=by rw [<- hS]; exact Nat.lt_of_lt_of_le (HV.out.Y2k _ (Nat.le_refl _)) (by decide)
   rw [hS] at HR ⊢;have HSL:=Lib.hid hSl;have HXB:=Lib.hid hXb;clear hS hSl hXb hx4 c0 c1 c2;go_wp2
   go_loopw [8,28] (fun o i wr=>∃ (k:Nat),k <= t.basics.length + t.gates.length /\ i = .int .i64 k /\ Q0t wr w4.heap.size 4 Value.bool o (S.take k) /\ Ext w4 wr) (fun _ i _=>t.basics.length + t.gates.length - (intOf i).toNat)
   case atStart=>exact ⟨0,Nat.zero_le _,rfl,Q0t.nil _ _ _ _,Ext.refl _⟩
   case round =>
    obtain ⟨k,hk,rfl,hown,hx⟩:=hrel
    by_cases hlt:k < t.basics.length + t.gates.length
    . have hb1:=X2e HXB.out k
      have HB:=Lib.hid (Q5h S k);have HTK:=Lib.hid (J4a (l:=S) (k:=k) (by rw [HSL.out]; exact hlt))
      have hlen:(S.take k).length = k:=by rw [List.length_take,HSL.out]; omega
      generalize hln:(S.take k).length = ln at hlen;unfold Q0t at hown;rw [hln] at hown;have HLN:=Lib.hid hln;clear hln;go_wp2_with (at_builtin; refine wpList_append_own _ rfl _ _ 77 rfl (w4.heap.size) 4 i0 (.bool false) 1 1 Tryz.underlying77 hi hz0 hz1 hz2 rfl (by decide) _ _ _ rfl (World.ownsRow.alloc hown _) ⟨wr.heap.size,0,none⟩ 1 1 [.bool ((Q5g S).testBit k)] rfl rfl ?_ ?_ ?_ ?_ ?_ ?_; exact Q8d _ _ _; (focus (simp [Value.oneCell'])); (focus (unfold maxLen; omega)); (focus omega); (focus (have:=hx.size; simp at this ⊢; omega)); intro v' w1 hown' hgrow _)
      have hx':=Q4f hx hown (Nat.le_refl _) hgrow;go_wp2;go_roundw
      case rel=>exact ⟨k + 1,by omega,by go_num,by rw [HTK.out,<- HB.out]; rw [<- HLN.out] at hown'; exact Q0t.snoc hown',hx'⟩
      case measure=>simp [intOf]; omega
    . have hall:S.take k = S:=List.take_of_length_le (by rw [HSL.out]; omega)
      have HO:Hid (Q6f wr u8 S):=Lib.hid (by rw [hall] at hown; exact hown.bools (by rw [HSL.out]; omega))
      have HXF:=Lib.hid (HX4.out.trans hx);clear hown hall hx;go_wp2;refine bodyPost_ret (v:=.tuple #[u8,.int .i64 (Q0l t l)]) (by rw [HE0.out]; simp [results,Tryz.results33,go_sem]) rfl ?_
      exact ⟨_,rfl,by rw [HR.out]; exact HO.out,HXF.out⟩
 . have HR:Hid (X3f t l = []):=Lib.hid (by unfold X3f; rw [if_neg he])
   have hne:(Q0l t l != 0) = true:=by simp [he]
   clear he;go_wp2;refine bodyPost_ret (v:=.tuple #[.slice none 0 0,.int .i64 (Q0l t l)]) (by simp [results,Tryz.results33,go_sem]) rfl ?_
   exact ⟨_,rfl,by rw [HR.out]; exact Rows.nil _ _ _,HXX.out⟩
end Go.Proofs
namespace Go.Proofs
open Go.RowKit Go.Tw Go.Flow
def X3m (t:Tree) (p:Bool):List (List Int):=if t.err = 0 then t.sets p else []
theorem Y4e (w:World) (v:Value) (t:Tree) (ht:IsTree w v t) (hT:Tab w) :
    Calls Tryz.prog 20 #[v] w fun e w'=>∃ x,e = .returned (.tuple #[x,.int .i64 t.err]) /\ Q1t w' x (X3m t false) /\ Ext w w':=by
 obtain ⟨a,b,c,rfl,h3⟩:=ht;obtain ⟨A,capa,rfl,hl1,hcap1,_⟩:=h3.basics.opened;obtain ⟨B,capb,rfl,hl2,hcap2,_⟩:=h3.causes.opened;obtain ⟨G,capg,rfl,hl3,hcap3,_⟩:=h3.gates.opened;have hxW:=Ext.box w (.cells #[.slice A t.basics.length capa,.slice B t.causes.length capb,.slice G t.gates.length capg] 33);have k0:=Blk.made w 33 #[.slice A t.basics.length capa,.slice B t.causes.length capb,.slice G t.gates.length capg];have HT:=Lib.hid (h3.ext hxW);have HX:=Lib.hid hxW;clear h3 hxW;have HTAB:=Lib.hid hT;clear hT;go_enter Tryz.func20,Tryz.ntmps20;go_wp2_with fail;refine (Q1y _ _ t ⟨_,_,_,rfl,HT.out⟩).mono ?_;rintro e w1 ⟨rfl,hx1⟩;have k1:=k0.ext hx1;have c0:=k1.cell 0;have c1:=k1.cell 1;have c2:=k1.cell 2;simp only [Go.Tw.gA,Go.Tw.gB,Go.Tw.gC] at c0 c1 c2;have HXX:=Lib.hid (HX.out.trans hx1);have HX1:=Lib.hid hx1;clear k0 k1 hx1
 by_cases he:t.err = 0
 . have HR:Hid (X3m t false = t.sets false):=Lib.hid (by unfold X3m; rw [if_pos he])
   have hV:=Valid.of he;have HV:=Lib.hid hV;have HE0:=Lib.hid he;have hsz:=hV.size;have hne:(t.err != 0) = false:=by simp [he]
   clear he hV;go_wp2_with fail;refine (Q3p _ _ t HV.out ⟨_,_,_,rfl,HT.out.ext HX1.out⟩).mono ?_;rintro e w2 ⟨fv,gv,rfl,hn,hx2⟩;obtain ⟨A1,cap1,rfl,_,_,_⟩:=hn.fails.opened;obtain ⟨A2,cap2,rfl,_,_,_⟩:=hn.gates.opened;rw [Q2v] at hn ⊢;have HN:=Lib.hid hn;have HX2:=Lib.hid hx2;clear hn hx2 c0 c1 c2;go_wp2_with (first | (refine Q0o rfl _ 129 rfl Tryz.Q2c Tryz.Q0u rfl hb9 rfl ?_) | (refine Q0g rfl _ _ 129 rfl Tryz.Q0u rfl rfl (Blk.made _ _ _) rfl rfl ?_ ?_; (focus (intro u hu; simp [outA] at hu; rcases hu with rfl | rfl | rfl | rfl | rfl | rfl | rfl | rfl | rfl | rfl | rfl | rfl | rfl | rfl | rfl | rfl <;> rfl)); intro w9 hb9 hl9 ho9) | fail)
   have hx9:Ext w2 w9:=Below.trans (Ext.box w2 _) (hl9 _ (Nat.le_refl _));have HXX9:Hid (Ext w w9):=by exact (HXX.out.trans HX2.out).trans hx9
   have HN9:=Lib.hid (HN.out.ext hx9);clear hl9 ho9 hb9 hx9;refine (X0v _ _ _ t t.Q0b 73 (noV t t.Q0b (.slice A1 t.size cap1) (.slice A2 t.gates.length cap2)) (fun s=>t.fails (evN s)) HV.out HN9.out (HTAB.out.ext HXX9.out) (enters_of Tryz.func73 (by kernel_rfl) rfl) (fun W s hx hs=>Q9k W _ _ t t.Q0b s HV.out hs (HN9.out.ext hx))).mono ?_
   rintro e w3 ⟨x,ll,rfl,hii,hp,hso,hx3⟩;have hll:=X7o (p:=false) hsz (fun s hs=>Y8c hsz hs) hp hso;subst hll;have HII:=Lib.hid hii;clear hp hso hii;go_wp2;refine bodyPost_ret (v:=.tuple #[x,.int .i64 t.err]) (by rw [HE0.out]; simp [results,Tryz.results20,go_sem]) rfl ?_
   exact ⟨x,rfl,by rw [HR.out]; exact HII.out,HXX9.out.trans hx3⟩
 . have HR:Hid (X3m t false = []):=Lib.hid (by unfold X3m; rw [if_neg he])
   have hne:(t.err != 0) = true:=by simp [he]
   clear he;go_wp2;refine bodyPost_ret (v:=.tuple #[.slice none 0 0,.int .i64 t.err]) (by simp [results,Tryz.results20,go_sem]) rfl ?_
   exact ⟨_,rfl,by rw [HR.out]; exact Rows.nil _ _ _,HXX.out⟩
theorem Y0s (w:World) (v:Value) (t:Tree) (ht:IsTree w v t) (hT:Tab w) :
    Calls Tryz.prog 34 #[v] w fun e w'=>∃ x,e = .returned (.tuple #[x,.int .i64 t.err]) /\ Q1t w' x (X3m t true) /\ Ext w w':=by
 obtain ⟨a,b,c,rfl,h3⟩:=ht;obtain ⟨A,capa,rfl,hl1,hcap1,_⟩:=h3.basics.opened;obtain ⟨B,capb,rfl,hl2,hcap2,_⟩:=h3.causes.opened;obtain ⟨G,capg,rfl,hl3,hcap3,_⟩:=h3.gates.opened;have hxW:=Ext.box w (.cells #[.slice A t.basics.length capa,.slice B t.causes.length capb,.slice G t.gates.length capg] 33);have k0:=Blk.made w 33 #[.slice A t.basics.length capa,.slice B t.causes.length capb,.slice G t.gates.length capg];have HT:=Lib.hid (h3.ext hxW);have HX:=Lib.hid hxW;clear h3 hxW;have HTAB:=Lib.hid hT;clear hT;go_enter Tryz.func34,Tryz.ntmps34;go_wp2_with fail;refine (Q1y _ _ t ⟨_,_,_,rfl,HT.out⟩).mono ?_;rintro e w1 ⟨rfl,hx1⟩;have k1:=k0.ext hx1;have c0:=k1.cell 0;have c1:=k1.cell 1;have c2:=k1.cell 2;simp only [Go.Tw.gA,Go.Tw.gB,Go.Tw.gC] at c0 c1 c2;have HXX:=Lib.hid (HX.out.trans hx1);have HX1:=Lib.hid hx1;clear k0 k1 hx1
 by_cases he:t.err = 0
 . have HR:Hid (X3m t true = t.sets true):=Lib.hid (by unfold X3m; rw [if_pos he])
   have hV:=Valid.of he;have HV:=Lib.hid hV;have HE0:=Lib.hid he;have hsz:=hV.size;have hne:(t.err != 0) = false:=by simp [he]
   clear he hV;go_wp2_with fail;refine (Q3p _ _ t HV.out ⟨_,_,_,rfl,HT.out.ext HX1.out⟩).mono ?_;rintro e w2 ⟨fv,gv,rfl,hn,hx2⟩;obtain ⟨A1,cap1,rfl,_,_,_⟩:=hn.fails.opened;obtain ⟨A2,cap2,rfl,_,_,_⟩:=hn.gates.opened;rw [Q2v] at hn ⊢;have HN:=Lib.hid hn;have HX2:=Lib.hid hx2;clear hn hx2 c0 c1 c2;go_wp2_with (first | (refine Q0o rfl _ 129 rfl Tryz.Q2c Tryz.Q0u rfl hb9 rfl ?_) | (refine Q0g rfl _ _ 129 rfl Tryz.Q0u rfl rfl (Blk.made _ _ _) rfl rfl ?_ ?_; (focus (intro u hu; simp [outA] at hu; rcases hu with rfl | rfl | rfl | rfl | rfl | rfl | rfl | rfl | rfl | rfl | rfl | rfl | rfl | rfl | rfl | rfl <;> rfl)); intro w9 hb9 hl9 ho9) | fail)
   have hx9:Ext w2 w9:=Below.trans (Ext.box w2 _) (hl9 _ (Nat.le_refl _));have HXX9:Hid (Ext w w9):=by exact (HXX.out.trans HX2.out).trans hx9
   have HN9:=Lib.hid (HN.out.ext hx9);clear hl9 ho9 hb9 hx9;refine (X0v _ _ _ t t.Q0b 89 (noV t t.Q0b (.slice A1 t.size cap1) (.slice A2 t.gates.length cap2)) (fun s=>!t.fails (evN (Q4i t s))) HV.out HN9.out (HTAB.out.ext HXX9.out) (enters_of Tryz.func89 (by kernel_rfl) rfl) (fun W s hx hs=>Z0v W _ _ t t.Q0b s HV.out hs (HN9.out.ext hx))).mono ?_
   rintro e w3 ⟨x,ll,rfl,hii,hp,hso,hx3⟩;have hll:=X7o (p:=true) hsz (fun s hs=>Z0g hsz hs) hp hso;subst hll;have HII:=Lib.hid hii;clear hp hso hii;go_wp2;refine bodyPost_ret (v:=.tuple #[x,.int .i64 t.err]) (by rw [HE0.out]; simp [results,Tryz.results34,go_sem]) rfl ?_
   exact ⟨x,rfl,by rw [HR.out]; exact HII.out,HXX9.out.trans hx3⟩
 . have HR:Hid (X3m t true = []):=Lib.hid (by unfold X3m; rw [if_neg he])
   have hne:(t.err != 0) = true:=by simp [he]
   clear he;go_wp2;refine bodyPost_ret (v:=.tuple #[.slice none 0 0,.int .i64 t.err]) (by simp [results,Tryz.results34,go_sem]) rfl ?_
   exact ⟨_,rfl,by rw [HR.out]; exact Rows.nil _ _ _,HXX.out⟩
end Go.Proofs
namespace Go.Proofs
open Go.RowKit Go.Tw Go.Flow
def singleR (t:Tree):List Int:=if t.err = 0 then t.single else []
theorem J4b (k:Nat):evN (2 ^ k) = evL [(k:Int)]:=by
 funext i
 unfold evN evL has;rw [Nat.testBit_two_pow]
 by_cases h:k = i
 . subst h; simp
 . have:¬ (k:Int) = (i:Int):=by omega
   rw [decide_eq_false h]
   symm
   simp only [List.contains_cons,List.contains_nil,Bool.or_false,beq_eq_false_iff_ne];omega
theorem Y6u (w:World) (v:Value) (t:Tree) (ht:IsTree w v t) :
    Calls Tryz.prog 35 #[v] w fun e w'=>∃ x,e = .returned (.tuple #[x,.int .i64 t.err]) /\ Q0f w' x (singleR t) /\ Ext w w':=by
 obtain ⟨i0,hi,hz0,hz1,hz2⟩:=info_parts Tryz.info3;obtain ⟨a,b,c,rfl,h3⟩:=ht;obtain ⟨A,capa,rfl,hl1,hcap1,_⟩:=h3.basics.opened;obtain ⟨B,capb,rfl,hl2,hcap2,_⟩:=h3.causes.opened;obtain ⟨G,capg,rfl,hl3,hcap3,_⟩:=h3.gates.opened;have hxW:=Ext.box w (.cells #[.slice A t.basics.length capa,.slice B t.causes.length capb,.slice G t.gates.length capg] 33);have k0:=Blk.made w 33 #[.slice A t.basics.length capa,.slice B t.causes.length capb,.slice G t.gates.length capg];have HT:=Lib.hid (h3.ext hxW);have HX:=Lib.hid hxW;clear h3 hxW;go_enter Tryz.func35,Tryz.ntmps35;go_wp2_with fail;refine (Q1y _ _ t ⟨_,_,_,rfl,HT.out⟩).mono ?_;rintro e w1 ⟨rfl,hx1⟩;have k1:=k0.ext hx1;have c0:=k1.cell 0;have c1:=k1.cell 1;have c2:=k1.cell 2;simp only [Go.Tw.gA,Go.Tw.gB,Go.Tw.gC] at c0 c1 c2;have HXX:=Lib.hid (HX.out.trans hx1);have HX1:=Lib.hid hx1;clear k0 k1 hx1
 by_cases he:t.err = 0
 . have HR:Hid (singleR t = t.single):=Lib.hid (by unfold singleR; rw [if_pos he])
   have hV:=Valid.of he;have HV:=Lib.hid hV;have HE0:=Lib.hid he;have hsz:=hV.size;have hne:(t.err != 0) = false:=by simp [he]
   clear he hV;go_wp2_with fail;refine (Q3p _ _ t HV.out ⟨_,_,_,rfl,HT.out.ext HX1.out⟩).mono ?_;rintro e w2 ⟨fv,gv,rfl,hn,hx2⟩;obtain ⟨A1,cap1,rfl,_,_,_⟩:=hn.fails.opened;obtain ⟨A2,cap2,rfl,_,_,_⟩:=hn.gates.opened;rw [Q2v] at hn ⊢;have HN:=Lib.hid hn;have HX2:=Lib.hid hx2;clear hn hx2 c0 c1 c2;go_wp2_with (first | (refine Q0g rfl _ _ 129 rfl Tryz.Q0u rfl rfl (Blk.made _ _ _) rfl rfl ?_ ?_; (focus (intro u hu; simp [outA] at hu; rcases hu with rfl | rfl | rfl | rfl | rfl | rfl | rfl | rfl | rfl | rfl | rfl | rfl | rfl | rfl | rfl | rfl <;> rfl)); intro w9 hb9 hl9 ho9); have n0:=hb9.cell 0; simp only [outA,Go.Tw.gA,Go.Tw.gB] at n0 | fail)
   have hx9:Ext w2 w9:=Below.trans (Ext.box w2 _) (hl9 _ (Nat.le_refl _));have HXX9:Hid (Ext w w9):=by exact (HXX.out.trans HX2.out).trans hx9
   have HN9:=Lib.hid (HN.out.ext hx9);have HB9:=Lib.hid hb9;clear hl9 ho9 hb9 hx9
   go_loopw [6,18] (fun o i wr=>∃ (k:Nat),k <= t.size /\ i = .int .i64 k /\ Q0t wr w9.heap.size 3 (.int .i64) o (Q9b t k) /\ Ext w9 wr) (fun _ i _=>t.size - (intOf i).toNat)
   case atStart=>exact ⟨0,Nat.zero_le _,rfl,Q0t.nil _ _ _ _,Ext.refl _⟩
   case round =>
    obtain ⟨k,hk,rfl,hown,hx⟩:=hrel
    by_cases hlt:k < t.size
    . have hp2:(2:Nat) ^ k < 2 ^ t.size:=Nat.pow_lt_pow_right (by omega) hlt
      have hp3:(2:Nat) ^ k < 2 ^ 62:=Nat.pow_lt_pow_right (by omega) (by omega)
      have hss:=Y2r t k;rw [<- J4b] at hss;obtain ⟨Z,hZ⟩:∃ Z,2 ^ k = Z:=⟨_,rfl⟩;rw [hZ] at hp2 hp3 hss;have hpw:=J0d hZ hp3;have hpw2:wrap64 ((2:Int) ^ k) = (Z:Int):=by rw [Y7u (n:=k) (by omega),hZ]
      obtain ⟨f,hf⟩:∃ f,t.fails (evN Z) = f:=⟨_,rfl⟩;have HCUT:Hid (∀ w',Ext w9 w' -> Calls Tryz.prog 73 #[noV t t.Q0b (.slice A1 t.size cap1) (.slice A2 t.gates.length cap2),.int .i64 Z] w' fun e w''=>e = .returned (.bool f) /\ Ext w' w''):=by
       exact (by intro w' hx'; rw [<- hf]; exact Q9k w' _ _ t t.Q0b Z HV.out hp2 (HN9.out.ext hx'):∀ w',Ext w9 w' -> Calls Tryz.prog 73 #[noV t t.Q0b (.slice A1 t.size cap1) (.slice A2 t.gates.length cap2),.int .i64 Z] w' fun e w''=>e = .returned (.bool f) /\ Ext w' w'')
      rw [hf] at hss;have HSS:=Lib.hid hss;have hkI:(k:Int) < 64:=by omega
      have hsl:=X5v t k;have HOWN:=Lib.hid hown;have HXR:=Lib.hid hx;have hdr:=(Ext.refl wr).drew;clear hf hZ hp2 hp3 hss hown hx n0;go_wp2;refine Flow.Q9o [.w,.p,.p,.w] [0,1,2,3] [[],[],[1],[0,2]]
       [.c 0 (noV t t.Q0b (.slice A1 t.size cap1) (.slice A2 t.gates.length cap2)),.c 1 (.int .i64 k),.c 2 (.int .i64 (Z:Nat)),.c 3 (.bool f)]
       (by kernel_rfl) rfl (by kernel_rfl) ⟨?g0,?g1,?g2,?g3,trivial⟩ ?post
      case g0=>
       intro v w1 hx;intro K hK;exact Q0m _ _ rfl Tryz.Q2c Tryz.Q0u (by go_simp) (HB9.out.ext (HXR.out.trans (hdr.trans hx))) rfl (hK _ _ (Ext.refl _) rfl)
      case g1=>
       intro v w1 hx;refine ⟨_,fun w=>?_,rfl⟩;go_simp
      case g2=>
       intro v w1 hx;(repeat intro (zq:v _ = _));refine ⟨_,fun w=>?_,rfl⟩;go_simp
      case g3=>
       intro v w1 hx;(repeat intro (zq:v _ = _));intro K hK;go_simp;refine Q0d (HCUT.out _ (HXR.out.trans (hdr.trans hx))) ?_;rintro e w2 ⟨rfl,hx2⟩;exact ⟨_,rfl,hK _ _ hx2 rfl⟩
      case post =>
       intro v w1 hx;(iterate 4 intro (zq:v _ = _));simp only [Flow.All,Flow.acts,Act.put];go_simp;have hown:=HOWN.out.below (hdr.trans hx);have hx1:=HXR.out.trans (hdr.trans hx);cases f with
       | false =>
         go_wp2;go_roundw
         case rel=>exact ⟨k + 1,by omega,by go_num,by rw [HSS.out]; simpa using hown,HXR.out.trans (hdr.trans hx)⟩
         case measure=>simp [intOf]; omega
       | true =>
         go_wp2_with (at_builtin; refine wpList_append_own _ rfl _ _ 40 rfl (w9.heap.size) 3 i0 (.int .i64 0) 1 8 Tryz.underlying40 hi hz0 hz1 hz2 rfl (by decide) _ _ _ rfl (World.ownsRow.alloc hown _) ⟨w1.heap.size,0,none⟩ 1 1 [.int .i64 k] rfl rfl ?_ ?_ ?_ ?_ ?_ ?_; exact Q8d _ _ _; (focus (simp [Value.oneCell'])); (focus (unfold maxLen; omega)); (focus omega); (focus (have:=hx1.size; simp at this ⊢; omega)); intro v' w1 hown' hgrow _)
         have hx':=Q4f hx1 hown (Nat.le_refl _) hgrow;go_wp2;go_roundw
         case rel=>exact ⟨k + 1,by omega,by go_num,by rw [HSS.out]; exact Q0t.snoc hown',hx'⟩
         case measure=>simp [intOf]; omega
    . have hks:k = t.size:=by omega
      have HS:Hid (Q9b t k = t.single):=Lib.hid (by rw [hks]; rfl)
      have hsl:=X5v t k;have hii:Q0f wr _ (Q9b t k):=hown.ints (by omega)
      have HII:=Lib.hid hii;have HXR:=Lib.hid hx;clear hks hown hii hx n0;go_wp2;refine bodyPost_ret (v:=.tuple #[_,.int .i64 t.err]) (by rw [HE0.out]; simp [results,Tryz.results35,go_sem]; rfl) rfl ?_
      exact ⟨_,rfl,by rw [HR.out,<- HS.out]; exact HII.out,HXX9.out.trans HXR.out⟩
 . have HR:Hid (singleR t = []):=Lib.hid (by unfold singleR; rw [if_neg he])
   have hne:(t.err != 0) = true:=by simp [he]
   clear he;go_wp2;refine bodyPost_ret (v:=.tuple #[.slice none 0 0,.int .i64 t.err]) (by simp [results,Tryz.results35,go_sem]) rfl ?_
   exact ⟨_,rfl,by rw [HR.out]; exact Rows.nil _ _ _,HXX.out⟩
end Go.Proofs
namespace Go.Proofs
open Go.RowKit Go.Tw Go.Flow
theorem Q1p {P:Program} {K:Value -> World -> Prop} {o:Oper} {a:Act} {w:World} (p x:Operand) (T:TypeId) (ho:o.op = .store T p x)
    {n:Nat} (hS:∀ w,(sizeOf T).run P w = .ok n w) {g:Nat} (hp:a.eval p = .pointer (some ⟨g,0,none⟩)) {BT:TypeId} {cs vs:Array Value} (hx:a.eval x = .agg vs) (hb:Blk w g BT cs) (hn:cs.size = n) (hv:vs.size = n) (h1:∀ u ∈ vs.toList,u.oneCell' = true)
    (h:∀ v w',Blk w' g BT vs -> (∀ n,n <= g -> Below n w w') -> (∀ k,k ≠ g -> w'.heap[k]? = w.heap[k]?) -> K v w'):gives P K ((execOp a.eval o).run P w):=by
 obtain ⟨w',hr,hb',hl,hoo⟩:=Q9e (P:=P) vs.toList 0 w cs hb h1 (by simp [hn,hv])
 have hs:(storeVar T ⟨g,0,none⟩ (.agg vs)).run P w = .ok () w':=by
  have hc:(Value.agg vs).cells = vs:=rfl;unfold storeVar;simp only [Sem.run_bind,hS,Result.andThen_ok];rw [if_neg (by rw [hc]; simp [hv])]
  exact hr
 have hr2:(execOp a.eval o).run P w = .ok .skip w':=by
  unfold execOp;simp only [ho,hp,hx,Instr.storeAt,Instr.sureAddr,Sem.run_bind,Sem.run_pure,Result.andThen_ok,hs]
 rw [hr2];exact h _ _ (by simpa using hb') hl hoo
def X0q (a b:Int):Array Value:=#[.int .i64 (lowest a b).num,.int .i64 (lowest a b).den]
theorem Q6x (a b:Int):∀ u ∈ (X0q a b).toList,u.oneCell' = true:=by
 intro u hu;simp only [X0q,List.mem_cons,List.not_mem_nil,or_false] at hu
 rcases hu with rfl | rfl <;> rfl
theorem Tryz.Q5l (w:World):(isAgg 52).run Tryz.prog w = .ok true w:=by kernel_rfl
theorem Tryz.Q1r (w:World):(sizeOf 52).run Tryz.prog w = .ok 2 w:=by kernel_rfl
theorem Q5t {c:List Int} (h:Small c) (t:Tree) (wi:Nat) (hs:t.size <= 12):0 <= Q1i t c wi /\ Q1i t c wi <= 1152921504606846976:=by
 have h1:=Y8e h t wi (List.finRange (2 ^ t.size));have h2:(2:Nat) ^ t.size <= 2 ^ 12:=Nat.pow_le_pow_right (by omega) hs
 rw [List.length_finRange] at h1;unfold Q1i;refine ⟨h1.1,Int.le_trans h1.2 ?_⟩;generalize (2:Nat) ^ t.size = m at h2;omega
theorem X8z {n:Nat} (h:n <= 12):1 <= Q8q 16 n /\ Q8q 16 n <= 281474976710656:=by
 unfold Q8q;refine ⟨Nat.one_le_pow _ _ (by omega),Nat.le_trans (Nat.pow_le_pow_right (by omega) h) (by decide)⟩
theorem Q4p (w:World) (fv gv:Value) (t:Tree) (c0 c:List Int) (hv:Valid t) (hn:Y6q w fv gv t) (hc:Small c) (hlen:c.length = t.size) :
    Calls Tryz.prog 71 #[noV t c0 fv gv,chV c] w fun e w'=>e = .returned (.agg (X0q (Q1i t c 0) (Q8q 16 t.size))) /\ Ext w w':=by
 obtain ⟨A1,cap1,rfl,_,_,_⟩:=hn.fails.opened;obtain ⟨A2,cap2,rfl,_,_,_⟩:=hn.gates.opened;rw [Q2v] at hn ⊢;have HN:=Lib.hid hn;have HV:=Lib.hid hv;have HC:=Lib.hid hc;have HLEN:=Lib.hid hlen;have hsz:=hv.size;have hwb:=Q5t hc t 0 hsz;have hpb:=X8z hsz;obtain ⟨m,hm⟩:∃ m,Q1i t c 0 = m:=⟨_,rfl⟩;obtain ⟨d,hd⟩:∃ d,Q8q 16 t.size = d:=⟨_,rfl⟩;rw [hm] at hwb ⊢;rw [hd] at hpb ⊢;have HW:Hid (∀ w',Ext w w' -> Calls Tryz.prog 92 #[noV t c0 (.slice A1 t.size cap1) (.slice A2 t.gates.length cap2),chV c,.int .i64 0] w' fun e w''=>e = .returned (.int .i64 m) /\ Ext w' w''):=by
  exact (by intro w' hx; rw [<- hm]; exact Q5p w' _ _ t c0 c 0 HV.out (HN.out.ext hx) HC.out HLEN.out (by omega):∀ w',Ext w w' -> Calls Tryz.prog 92 #[noV t c0 (.slice A1 t.size cap1) (.slice A2 t.gates.length cap2),chV c,.int .i64 0] w' fun e w''=>e = .returned (.int .i64 m) /\ Ext w' w'')
 have HP:Hid (∀ w',Calls Tryz.prog 93 #[noV t c0 (.slice A1 t.size cap1) (.slice A2 t.gates.length cap2)] w' fun e w''=>e = .returned (.int .i64 d) /\ Ext w' w''):=by
  exact (by intro w'; rw [<- hd]; exact X4j w' t c0 A1 A2 _ _ _ _ hsz:∀ w',Calls Tryz.prog 93 #[noV t c0 (.slice A1 t.size cap1) (.slice A2 t.gates.length cap2)] w' fun e w''=>e = .returned (.int .i64 d) /\ Ext w' w'')
 clear hn hv hc hlen hm hd;rw [Z0m];unfold noV;go_enter Tryz.func71,Tryz.ntmps71;go_wp2;change Code.wp _ _ _ _ (((w.alloc (.cells (outA t.size (.slice A1 t.size cap1) c0 t.basics.length (.slice A2 t.gates.length cap2)) 129)).alloc (.cells (chA c) 124)).alloc (.cells #[.int .i64 0,.int .i64 0] 52));obtain ⟨W,hWW,k0,k1,k2,HXW,eW⟩:=X6a w 129 (outA t.size (.slice A1 t.size cap1) c0 t.basics.length (.slice A2 t.gates.length cap2)) 124 (chA c) 52 #[.int .i64 0,.int .i64 0];rw [hWW];clear hWW;have hdr:=(Ext.refl W).drew;refine Flow.region [.w,.w,.w,.w,.w,.w,.last] [0,1,2,3,4,5,6] [[],[],[0,1],[],[0,1,2,3],[0,1,2,3,4],[0,1,2,3,4,5]] [6]
  [.c 0 (noV t c0 (.slice A1 t.size cap1) (.slice A2 t.gates.length cap2)),.c 1 (chV c),.c 2 (.int .i64 m),.c 3 (noV t c0 (.slice A1 t.size cap1) (.slice A2 t.gates.length cap2)),.c 4 (.int .i64 d),.c 5 (.agg (X0q m d)),.none]
  [fun v w1 w'=>Blk w' (w.heap.size + 1 + 1) 52 (X0q m d) /\ Below w.heap.size w1 w'] (by kernel_rfl) rfl (by kernel_rfl) ⟨?g0,?g1,?g2,?g3,?g4,?g5,?g6,trivial⟩ ?post
 case g0 | g3=>
  intro v w1 hx;intro K hK;exact Q0m _ _ rfl Tryz.Q2c Tryz.Q0u (by go_simp) (k0.ext (hdr.trans hx)) rfl (hK _ _ (Ext.refl _) rfl)
 case g1=>
  intro v w1 hx;intro K hK;exact Q0m _ _ rfl Tryz.Q8s Tryz.Q4k (by go_simp) (k1.ext (hdr.trans hx)) rfl (hK _ _ (Ext.refl _) rfl)
 case g2=>
  intro v w1 hx;(repeat intro (zq:v _ = _));intro K hK;go_simp;refine Q0d (HW.out _ (HXW.out.trans (hdr.trans hx))) ?_;rintro e w2 ⟨rfl,hx2⟩;exact ⟨_,rfl,hK _ _ hx2 rfl⟩
 case g4=>
  intro v w1 hx;(repeat intro (zq:v _ = _));intro K hK;go_simp;refine Q0d (HP.out _) ?_;rintro e w2 ⟨rfl,hx2⟩;exact ⟨_,rfl,hK _ _ hx2 rfl⟩
 case g5=>
  intro v w1 hx;(repeat intro (zq:v _ = _));intro K hK;go_simp;refine Q0d (Q9t _ m d hwb.1 (by omega) (by omega) (by omega)) ?_
  rintro e w2 ⟨rfl,hx2⟩;exact ⟨_,rfl,hK _ _ hx2 rfl⟩
 case g6=>
  intro v w1 hx;(repeat intro (zq:v _ = _));intro wl hT;obtain rfl:wl = w1:=hT;intro bb hbb;intro K hK;have o1:bb.eval (.tmp 4) = .pointer (some ⟨w.heap.size + 1 + 1,0,none⟩):=by rw [hbb]; dsimp only; (try simp (discharger:=decide) only [eval_put_ne]); rfl
  have o2:bb.eval (.tmp 10) = .agg (X0q m d):=by rw [hbb]; dsimp only; (try simp (discharger:=decide) only [eval_put_ne]); rw [Q0a (by simp only [size_put]; exact (by decide:10 < 11))]; assumption
  exact Q1p (.tmp 4) (.tmp 10) _ rfl Tryz.Q1r o1 o2 (k2.ext (hdr.trans hx)) rfl rfl (Q6x _ _) (fun vv w' hb hl ho=>hK _ _ ⟨hb,hl _ (by omega)⟩)
 case post =>
  intro v w1 hx;(iterate 6 intro (zq:v _ = _));intro w2 hE;replace hE:(fun v w1 w'=>Blk w' (w.heap.size + 1 + 1) 52 (X0q m d) /\ Below w.heap.size w1 w') v w1 w2:=hE;simp only [Flow.acts,Act.put];go_simp;obtain ⟨hb9,hl9⟩:=hE;go_wp2;refine bodyPost_ret (Q5n Tryz.results71 rfl hb9 Tryz.Q5l Tryz.Q1r) rfl ?_;exact ⟨rfl,Below.trans (HXW.out.trans (hdr.trans hx)) hl9⟩
end Go.Proofs
namespace Go.Proofs
open Go.RowKit Go.Tw Go.Flow
def Part (w:World) (g off:Nat) (sub:Array Value):Prop:=∀ k (hk:k < sub.size),w.cell? ⟨g,off + k,none⟩ = some sub[k]
theorem Part.ext {w w':World} {g off:Nat} {sub:Array Value} (h:Part w g off sub) (hx:Ext w w'):Part w' g off sub:=fun k hk=>hx.cell (h k hk)
theorem Y6c {P:Program} {w:World} {g off:Nat} {cs:Array Value} (h:Part w g off cs):(loadCells ⟨g,off,none⟩ cs.size).run P w = .ok cs w:=by
 have gen:∀ (n i:Nat) (acc:Array Value),i + n = cs.size -> acc.toList = cs.toList.take i -> (loadCellsFrom ⟨g,off,none⟩ i n acc).run P w = .ok cs w:=by
  intro n
  induction n with
  | zero =>
    intro i acc hi ha;have:acc = cs:=by
     apply Array.toList_inj.1
     rw [ha,List.take_of_length_le (by simp; omega)]
    subst this;simp [loadCellsFrom]
  | succ n ih =>
    intro i acc hi ha;have hlt:i < cs.size:=by omega
    have h0:=h i hlt;have ea:(⟨g,off,none⟩:Addr).add i = ⟨g,off + i,none⟩:=by rw [addr_add]
    rw [loadCellsFrom,ea];simp only [Sem.run_bind,load,Sem.run,h0,Result.andThen_ok];refine ih (i + 1) _ (by omega) ?_
    rw [Array.toList_push,ha,<- Array.getElem_toList (by simpa using hlt),List.take_append_getElem]
 exact gen cs.size 0 #[] (by omega) (by simp)
theorem X6p {P:Program} {w:World} {g off:Nat} {T:TypeId} {cs:Array Value} (h:Part w g off cs) (hA:∀ w,(isAgg T).run P w = .ok true w) (hS:∀ w,(sizeOf T).run P w = .ok cs.size w):(loadVar T ⟨g,off,none⟩).run P w = .ok (.agg cs) w:=by
 unfold loadVar;simp only [Sem.run_bind,hA,Result.andThen_ok,if_true,hS,Y6c h,Sem.run_pure]
theorem Q8i {P:Program} {w:World} {o:Oper} {a:Act} {p:Operand} {T:TypeId} {g off:Nat} {cs:Array Value} (hop:o.op = .load T p) (hA:∀ w,(isAgg T).run P w = .ok true w) (hS:∀ w,(sizeOf T).run P w = .ok cs.size w) (hp:a.eval p = .pointer (some ⟨g,off,none⟩)) (h:Part w g off cs):(execOp a.eval o).run P w = .ok (.value (.agg cs)) w:=by
 unfold execOp;simp only [hop,hp,Instr.loadAt,Instr.sureAddr,Sem.run_bind,Sem.run_pure,Result.andThen_ok,X6p h hA hS]
theorem Q2i {P:Program} {w:World} {ops:Array Oper} {rest:List Oper} {o:Oper} {a:Act} {Q:Exit -> Act -> World -> Prop} (hg:o.guard = none) (p:Operand) (T:TypeId) (hop:o.op = .load T p)
    (hA:∀ w,(isAgg T).run P w = .ok true w) {n:Nat} (hS:∀ w,(sizeOf T).run P w = .ok n w) {g off:Nat} (hp:a.eval p = .pointer (some ⟨g,off,none⟩)) {cs:Array Value} (hb:Part w g off cs) (hn:cs.size = n)
    (hK:wpList P ops Q rest (a.put o.dst (.agg cs)) w):wpList P ops Q (o :: rest) a w:=by
 subst hn;refine wpList_plain hg fun K' hK'=>?_;unfold Oper.wp;rw [Q8i hop hA hS hp hb];exact hK' _ _ hK
theorem Q9f {F:Fence} {n0:Nat} {P:Program} {w:World} {ops:Array Oper} {rest:List Oper} {o:Oper} {a:Act} {Q:Exit -> Act -> World -> Prop} (hw:Region.wanted o (yielded ops a.tmps) = true) (p:Operand) (T:TypeId) (hop:o.op = .load T p)
    (hA:∀ w,(isAgg T).run P w = .ok true w) {n:Nat} (hS:∀ w,(sizeOf T).run P w = .ok n w) {g off:Nat} (hp:a.eval p = .pointer (some ⟨g,off,none⟩)) {cs:Array Value} (hb:Part w g off cs) (hn:cs.size = n)
    (hK:wpListIn F n0 P ops Q rest (a.put o.dst (.agg cs)) w):wpListIn F n0 P ops Q (o :: rest) a w:=by
 subst hn;refine BigFrame.wpListIn_want hw fun K' hK'=>?_;unfold Oper.wpIn;refine ⟨?_,?_⟩
 . simp [Oper.about,hop]
 . rw [Oper.semAt_plain F _ _ (by rw [hop]; intro c hc'; cases hc'),Q8i hop hA hS hp hb]
   exact hK' _ _ hK
theorem Q3v {P:Program} {K:Value -> World -> Prop} {o:Oper} {a:Act} {w:World} (p:Operand) (T:TypeId) (ho:o.op = .load T p) (hA:∀ w,(isAgg T).run P w = .ok true w) {n:Nat} (hS:∀ w,(sizeOf T).run P w = .ok n w)
    {g off:Nat} (hp:a.eval p = .pointer (some ⟨g,off,none⟩)) {cs:Array Value} (hb:Part w g off cs) (hn:cs.size = n) (h:K (.agg cs) w):gives P K ((execOp a.eval o).run P w):=by
 subst hn;rw [Q8i ho hA hS hp hb];exact h
theorem Q2g {w:World} {g:Nat} {T:TypeId} {sz:Int} {fv:Value} {c:List Int} {nb:Int} {gv:Value} (h:Blk w g T (outA sz fv c nb gv)):Part w g 2 (chA c):=by
 intro k hk;have hk12:k < 12:=hk;have h1:=Y0w c hk12;rw [Array.getElem?_eq_getElem hk] at h1;rw [h.cell (2 + k),Y2z sz fv c nb gv hk12,h1]
end Go.Proofs
