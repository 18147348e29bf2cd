/- Contract of the reference: checkAll. Contracts of the reference: SameInts, SameBools. Contracts of the reference: before, count, dry. The last operations of a region: the frame under a name, its slots looked up one by one (to reckon the frame out runs away). Slices of structs that a call makes and appends to, read as lists. Sets of numbers as the bits of a number, and Go's operators on them: no program is in sight here. How many bits a number has, as math/bits reckons it: no program is in sight here. The nodes of a tree as sets of bits, and what they come to: no program is in sight here. A block of cells under one name; the block in which nodes are made. Contract of the reference: Weight. -/
import Derived.Test.YthnobngcipaljaaGreatDoorPp04
import Derived.Test.YthnobngcipaljaaGreatDoorPp03
import Derived.Test.YthnobngcipaljaaGreatDoorPp01
import Derived.Laws.BitsLemmas
set_option maxRecDepth 1000000
set_option maxHeartbeats 64000000
set_option linter.unusedVariables false
set_option linter.unusedSimpArgs false
set_option linter.constructorNameAsVariable false
open Go.Lib (hid)
namespace Go.Proofs
open Go.RowKit Go.Tw Go.Flow
theorem Q9v (x:Int) (l:List Int) (m:Int):Q0o (x :: l) m=if Q0f x 0 m=0 then Q0o l m else Q0f x 0 m:=rfl
theorem Q6c (w:World) (v:Value) (l:List Int) (m:Int) (hv:Q0d w v l) :
    Calls Tryz.prog 88 #[v,.int .i64 m] w fun e w'=>e=.returned (.int .i64 (Q0o l m)) /\ Ext w w':=by
 obtain ⟨A,cap,rfl,hl,hcap,hc⟩:=hv.opened;clear hv;go_enter Tryz.func88,Tryz.ntmps88;go_wp2
 go_loopw [5] (fun i wr=>∃ k:Nat,k <= l.length /\ i=.int .i64 k /\ Q0o (l.drop k) m=Q0o l m /\ Ext w wr) (fun i _=>l.length - (intOf i).toNat)
 case atStart=>exact ⟨0,Nat.zero_le _,rfl,rfl,Ext.refl _⟩
 case round =>
  obtain ⟨k,hk,rfl,hr,hx⟩:=hrel;have HR:=hid hr; clear hr
  by_cases hlt:k < l.length
  . obtain ⟨b,off,rfl,hcell⟩:=hc k hlt
    replace hcell:=hx.cell hcell;have HD:=hid (Q3b hlt);clear hc
    by_cases hz:Q0f (ix l k) 0 m=0
    . have hz1:(Q0f (ix l k) 0 m != 0)=false:=by simp [hz]
      have HZ:=hid hz; clear hz;go_wp2_with (go_at_call 87; refine (Q2a _ (ix l k) 0 m).mono ?_; rintro e w' ⟨rfl,rfl⟩);go_roundw
      case rel=>exact ⟨k + 1,by omega,by go_num,by rw [<- HR.out,HD.out,Q9v,if_pos HZ.out],hx⟩
      case measure=>simp [intOf]; omega
    . have hz1:(Q0f (ix l k) 0 m != 0)=true:=by simp [hz]
      have HZ:=hid hz; clear hz;go_wp2_with (go_at_call 87; refine (Q2a _ (ix l k) 0 m).mono ?_; rintro e w' ⟨rfl,rfl⟩);go_ret;exact ⟨Q1d (by rw [<- HR.out,HD.out,Q9v,if_neg HZ.out]),hx⟩
  . clear hc
    go_wp2;go_ret;exact ⟨Q1d (by rw [<- HR.out,List.drop_eq_nil_of_le (by omega)]; rfl),hx⟩
end Go.Proofs
namespace Go.Proofs
open Go.RowKit Go.Tw Go.Flow
theorem Q8p {α:Type} [DecidableEq α] {x y:α} {l m:List α} (h:x=y):decide (x :: l=y :: m)=decide (l=m):=by
 subst h; simp
theorem Q8c {α:Type} [DecidableEq α] {x y:α} {l m:List α} (h:¬ x=y):decide (x :: l=y :: m)=false:=by
 simp [h]
theorem Q8i (w:World) (u v:Value) (a b:List Int) (hu:Q0d w u a) (hv:Q0d w v b) :
    Calls Tryz.prog 54 #[u,v] w fun e w'=>e=.returned (.bool (decide (a=b))) /\ Ext w w':=by
 obtain ⟨A,capa,rfl,hla,hcapa,hca⟩:=hu.opened;obtain ⟨B,capb,rfl,hlb,hcapb,hcb⟩:=hv.opened;clear hu hv;go_enter Tryz.func54,Tryz.ntmps54
 by_cases hl:a.length=b.length
 . have hne:((a.length:Int) != (b.length:Int))=false:=by simp [hl]
   go_wp2
   go_loopw [5] (fun i wr=>∃ k:Nat,k <= a.length /\ i=.int .i64 k /\ decide (a.drop k=b.drop k)=decide (a=b) /\ Ext w wr) (fun i _=>a.length - (intOf i).toNat)
   case atStart=>exact ⟨0,Nat.zero_le _,rfl,rfl,Ext.refl _⟩
   case round =>
    obtain ⟨k,hk,rfl,hr,hx⟩:=hrel;have HR:=hid hr; clear hr
    by_cases hlt:k < a.length
    . have hlt2:k < b.length:=by omega
      obtain ⟨b1,off1,rfl,hc1⟩:=hca k hlt;obtain ⟨b2,off2,rfl,hc2⟩:=hcb k hlt2;replace hc1:=hx.cell hc1;replace hc2:=hx.cell hc2;have HD1:=hid (Q3b hlt);have HD2:=hid (Q3b hlt2);clear hca hcb
      by_cases h0:ix a k=ix b k
      . have hx1:(ix a k != ix b k)=false:=by simp [h0]
        have H0:=hid h0; clear h0;go_wp2
        go_quiet (fail)
        all_goals go_wp2
        go_roundw
        case rel=>exact ⟨k + 1,by omega,by go_num,by rw [<- HR.out,HD1.out,HD2.out,Q8p H0.out],hx.drewN _⟩
        case measure=>simp [intOf]; omega
      . have hx1:(ix a k != ix b k)=true:=by simp [h0]
        have H0:=hid h0; clear h0;go_wp2
        go_quiet (fail)
        all_goals go_wp2
        go_ret;exact ⟨Q0u (by rw [<- HR.out,HD1.out,HD2.out,Q8c H0.out]),hx.drewN _⟩
    . clear hca hcb
      go_wp2;go_ret;exact ⟨Q0u (by rw [<- HR.out,List.drop_eq_nil_of_le (by omega),List.drop_eq_nil_of_le (by omega)]; rfl),hx⟩
 . have hne:((a.length:Int) != (b.length:Int))=true:=by simp; omega
   have HL:Hid (decide (a=b)=false):=hid (decide_eq_false (fun h=>hl (by rw [h])))
   clear hl hca hcb;go_wp2;go_ret;exact ⟨Q0u (by rw [HL.out]),Ext.refl _⟩
theorem Y0u {l:List Bool} {k:Nat} (h:k < l.length):l.drop k=bx l k :: l.drop (k + 1):=by
 unfold bx; rw [show l.getD k false=l[k] by simp [h]]; exact List.drop_eq_getElem_cons h
theorem X9d (w:World) (u v:Value) (a b:List Bool) (hu:Q1q w u a) (hv:Q1q w v b) :
    Calls Tryz.prog 55 #[u,v] w fun e w'=>e=.returned (.bool (decide (a=b))) /\ Ext w w':=by
 obtain ⟨A,capa,rfl,hla,hcapa,hca⟩:=hu.opened;obtain ⟨B,capb,rfl,hlb,hcapb,hcb⟩:=hv.opened;clear hu hv;go_enter Tryz.func55,Tryz.ntmps55
 by_cases hl:a.length=b.length
 . have hne:((a.length:Int) != (b.length:Int))=false:=by simp [hl]
   go_wp2
   go_loopw [5] (fun i wr=>∃ k:Nat,k <= a.length /\ i=.int .i64 k /\ decide (a.drop k=b.drop k)=decide (a=b) /\ Ext w wr) (fun i _=>a.length - (intOf i).toNat)
   case atStart=>exact ⟨0,Nat.zero_le _,rfl,rfl,Ext.refl _⟩
   case round =>
    obtain ⟨k,hk,rfl,hr,hx⟩:=hrel;have HR:=hid hr; clear hr
    by_cases hlt:k < a.length
    . have hlt2:k < b.length:=by omega
      obtain ⟨b1,off1,rfl,_,hc1⟩:=hca k hlt;obtain ⟨b2,off2,rfl,_,hc2⟩:=hcb k hlt2;replace hc1:=hx.cell hc1;replace hc2:=hx.cell hc2;have HD1:=hid (Y0u hlt);have HD2:=hid (Y0u hlt2);clear hca hcb;cases hxa:bx a k with
      | false =>
        cases hxb:bx b k with
        | false =>
          rw [hxa] at hc1;rw [hxb] at hc2;have H0:Hid (bx a k=bx b k):=hid (by rw [hxa,hxb])
          clear hxa hxb;go_wp2
          go_quiet (fail)
          all_goals go_wp2
          go_roundw
          case rel=>exact ⟨k + 1,by omega,by go_num,by rw [<- HR.out,HD1.out,HD2.out,Q8p H0.out],hx.drewN _⟩
          case measure=>simp [intOf]; omega
        | true =>
          rw [hxa] at hc1;rw [hxb] at hc2;have H0:Hid (¬ bx a k=bx b k):=hid (by rw [hxa,hxb]; decide)
          clear hxa hxb;go_wp2
          go_quiet (fail)
          all_goals go_wp2
          go_ret;exact ⟨Q0u (by rw [<- HR.out,HD1.out,HD2.out,Q8c H0.out]),hx.drewN _⟩
      | true =>
        cases hxb:bx b k with
        | false =>
          rw [hxa] at hc1;rw [hxb] at hc2;have H0:Hid (¬ bx a k=bx b k):=hid (by rw [hxa,hxb]; decide)
          clear hxa hxb;go_wp2
          go_quiet (fail)
          all_goals go_wp2
          go_ret;exact ⟨Q0u (by rw [<- HR.out,HD1.out,HD2.out,Q8c H0.out]),hx.drewN _⟩
        | true =>
          rw [hxa] at hc1;rw [hxb] at hc2;have H0:Hid (bx a k=bx b k):=hid (by rw [hxa,hxb])
          clear hxa hxb;go_wp2
          go_quiet (fail)
          all_goals go_wp2
          go_roundw
          case rel=>exact ⟨k + 1,by omega,by go_num,by rw [<- HR.out,HD1.out,HD2.out,Q8p H0.out],hx.drewN _⟩
          case measure=>simp [intOf]; omega
    . clear hca hcb
      go_wp2;go_ret;exact ⟨Q0u (by rw [<- HR.out,List.drop_eq_nil_of_le (by omega),List.drop_eq_nil_of_le (by omega)]; rfl),hx⟩
 . have hne:((a.length:Int) != (b.length:Int))=true:=by simp; omega
   have HL:Hid (decide (a=b)=false):=hid (decide_eq_false (fun h=>hl (by rw [h])))
   clear hl hca hcb;go_wp2;go_ret;exact ⟨Q0u (by rw [HL.out]),Ext.refl _⟩
end Go.Proofs
namespace Go.Proofs
open Go.RowKit Go.Tw Go.Flow
theorem X4z (b:Bool) (l:List Bool):countB (b :: l)=(if b then 1 else 0) + countB l:=by
 unfold countB; cases b <;> simp <;> omega
theorem countB_le (l:List Bool):0 <= countB l /\ countB l <= l.length:=by
 unfold countB; have:=List.countP_le_length (p:=id) (l:=l); omega
end Go.Proofs
namespace Go.Flow
open Go.RowKit Go.Tw
theorem eval_put_ne {a:Act} {d:Tmp} {u:Value} {t:Tmp} (h:d ≠ t):(a.put (some d) u).eval (.tmp t)=a.eval (.tmp t):=by
 show (a.tmps.setIfInBounds d u).getD t undef=a.tmps.getD t undef;simp only [Array.getD_eq_getD_getElem?,Array.getElem?_setIfInBounds_ne h]
theorem size_put {a:Act} {d:Option Tmp} {u:Value}:(a.put d u).tmps.size=a.tmps.size:=Q7c a d u
theorem Q0a {a:Act} {u:Value} {t:Tmp} (h:t < a.tmps.size):(a.put (some t) u).eval (.tmp t)=u:=by
 show (a.tmps.setIfInBounds t u).getD t undef=u;simp [Array.getD_eq_getD_getElem?,h]
end Go.Flow
namespace Go.Tw
open Go.RowKit Go.Flow
def Q0z {α:Type} (w:World) (base:Nat) (e:TypeId) (k:Nat) (enc:α -> List Value) (v:Value) (l:List α):Prop:=w.ownsRow base e k v l.length (l.flatMap enc)
theorem Q0z.nil {α:Type} (w:World) (base:Nat) (e:TypeId) (k:Nat) (enc:α -> List Value):Q0z w base e k enc (.slice none 0 0) []:=World.ownsRow_nil w base e k
theorem Q0z.below {α:Type} {w w':World} {base:Nat} {e:TypeId} {k:Nat} {enc:α -> List Value} {v:Value} {l:List α} (h:Q0z w base e k enc v l) (hx:Ext w w'):Q0z w' base e k enc v l:=by
 obtain ⟨h1,h2⟩:=h;refine ⟨h1,?_⟩
 rcases h2 with h2 | ⟨g,cap,cur,hv,hb,hg,r⟩
 . exact .inl h2
 . refine .inr ⟨g,cap,cur,hv,hb,?_,r⟩
   rw [Below.block hx g (Array.getElem?_eq_some_iff.1 hg).1]; exact hg
theorem Q0z.snoc {α:Type} {w:World} {base:Nat} {e:TypeId} {k:Nat} {enc:α -> List Value} {v:Value} {l:List α} {x:α} (h:w.ownsRow base e k v (l.length + 1) (l.flatMap enc ++ enc x)):Q0z w base e k enc v (l ++ [x]):=by
 unfold Q0z; simpa using h
theorem X0z {α:Type} {enc:α -> List Value} {k:Nat} (hk:∀ x,(enc x).length=k):∀ l:List α,(l.flatMap enc).length=l.length * k
 | []=>by simp
 | x :: l=>by rw [List.flatMap_cons,List.length_append,hk,X0z hk l,List.length_cons,Nat.add_mul]; omega
theorem flat_get {α:Type} {enc:α -> List Value} {k:Nat} (hk:∀ x,(enc x).length=k):∀ (l:List α) (j i:Nat) (hj:j < l.length),i < k -> (l.flatMap enc)[j * k + i]?=(enc l[j])[i]?
 | x :: l,0,i,_,hi=>by
   rw [List.flatMap_cons,Nat.zero_mul,Nat.zero_add,List.getElem?_append_left (by rw [hk]; exact hi)]; rfl
 | x :: l,j + 1,i,hj,hi=>by
   have hj':j < l.length:=by simpa using hj
   rw [List.flatMap_cons,List.getElem?_append_right (by rw [hk,Nat.add_mul]; omega),hk,show (j + 1) * k + i - k=j * k + i from by rw [Nat.add_mul]; omega,flat_get hk l j i hj' hi]
   rfl
theorem Q0z.rows {α:Type} {w:World} {base:Nat} {e:TypeId} {k:Nat} {enc:α -> List Value} {v:Value} {l:List α} {R:World -> (Nat -> Value) -> α -> Prop} (h:Q0z w base e k enc v l) (hl:l.length <= 17592186043904)
    (hk:∀ x,(enc x).length=k) (hR:∀ x ∈ l,R w (fun i=>((enc x)[i]?).getD undef) x) (hloc:∀ c c' x,(∀ i,i < k -> c i=c' i) -> R w c x -> R w c' x):Rows k R w v l:=by
 refine ⟨fun j=>((l.flatMap enc)[j]?).getD undef,?_,fun j hj=>hloc _ _ _ (fun i hi=>?_) (hR _ (List.getElem_mem hj))⟩
 . obtain ⟨_,h2⟩:=h
   rcases h2 with ⟨rfl,h0⟩ | ⟨g,cap,cur,rfl,_,hg,hcap,_,_,htake⟩
   . exact ⟨none,0,by rw [h0],hl,by omega,fun j hj=>by rw [h0,Nat.zero_mul] at hj; omega⟩
   . refine ⟨some ⟨g,0,none⟩,cap,rfl,hl,hcap,fun j hj=>⟨g,0,rfl,?_⟩⟩
     rw [Nat.zero_add];have h1:=congrArg (fun l=>l[j]?) htake;simp only [List.getElem?_take,hj,if_true] at h1;have hlt:j < (l.flatMap enc).length:=by rw [X0z hk]; exact hj
     rw [List.getElem?_eq_getElem hlt] at h1;simp only [World.cell?,hg,List.getElem?_eq_getElem hlt,Option.getD_some]
     simpa using h1
 . show ((enc l[j])[i]?).getD undef=((l.flatMap enc)[j * k + i]?).getD undef
   rw [flat_get hk l j i hj hi]
theorem X9i (w:World) (xs:List Value) (e:TypeId):∀ j u,xs[j]?=some u -> (w.alloc (.cells xs.toArray e)).cell? ((⟨w.heap.size,0,none⟩:Addr).add j)=some u:=by
 intro j u h;rw [addr_add,Nat.zero_add,World.cell?_alloc_at _ _ _ _ rfl]
 simpa using h
def J2i (x:Nat × Int):List Value:=[.int .i64 (x.1:Nat),.int .i64 x.2]
theorem Q0z.gts {w:World} {base:Nat} {e:TypeId} {v:Value} {l:List (Nat × Int)} {R:World -> (Nat -> Value) -> Nat × Int -> Prop} (hR:∀ w c x,R w c x ↔ c 0=.int .i64 (x.1:Nat) /\ c 1=.int .i64 x.2) (h:Q0z w base e 2 J2i v l) (hl:l.length <= 17592186043904):Rows 2 R w v l :=
 h.rows hl (fun _=>rfl) (fun x _=>(hR _ _ _).2 ⟨rfl,rfl⟩) (fun c c' x hc h=>(hR _ _ _).2 (by have:=(hR _ _ _).1 h; rw [<- hc 0 (by omega),<- hc 1 (by omega)]; exact this))
end Go.Tw
namespace Go.Tw
def Q9x:List Bool -> Nat
 | []=>0
 | b :: l=>b.toNat + 2 * Q9x l
theorem Q5p:∀ (l:List Bool) (i:Nat),(Q9x l).testBit i=bx l i
 | [],i=>by simp [Q9x,bx]
 | b :: l,0=>by
   rw [Q9x,Nat.testBit_zero];cases b <;> simp [bx] <;> omega
 | b :: l,i + 1=>by
   rw [Q9x,Nat.testBit_succ,show (b.toNat + 2 * Q9x l) / 2=Q9x l from by cases b <;> simp <;> omega,Q5p l i]
   simp [bx]
theorem Y4w (n i:Nat):(2 ^ n).testBit i=decide (i=n):=by
 rw [Nat.testBit_two_pow]; by_cases h:n=i
 . subst h; simp
 . have h2:¬ i=n:=fun e=>h e.symm
   simp [h,h2]
theorem Z3d (l m:List Bool) (i:Nat):bx (l ++ m) i=if i < l.length then bx l i else bx m (i - l.length):=by
 unfold bx
 split
 . rename_i h; simp [List.getD_eq_getElem?_getD,List.getElem?_append_left h]
 . rename_i h; simp [List.getD_eq_getElem?_getD,List.getElem?_append_right (by omega:l.length <= i)]
theorem Y7v {l:List Bool} {i:Nat} (h:l.length <= i):bx l i=false:=by simp [bx,h]
theorem Y9r (l:List Bool) (b:Bool):Q9x (l ++ [b])=if b then Q9x l ||| 2 ^ l.length else Q9x l:=by
 apply Nat.eq_of_testBit_eq
 intro i;rw [Q5p,Z3d]
 by_cases h:i < l.length
 . rw [if_pos h]
   cases b with
   | false=>simp only [Bool.false_eq_true,if_false]; rw [Q5p]
   | true=>simp only [if_true]; rw [Nat.testBit_or,Y4w,Q5p,decide_eq_false (by omega:¬ i=l.length),Bool.or_false]
 . rw [if_neg h]
   cases b with
   | false => simp only [Bool.false_eq_true, if_false]; rw [Q5p, Y7v (l := l) (by omega)]; rcases Nat.lt_or_ge (i - l.length) 1 with h' | h'
              . rw [show i - l.length=0 from by omega]; rfl
              . exact Y7v (by simpa using h')
   | true =>
     simp only [if_true];rw [Nat.testBit_or,Y4w,Q5p,Y7v (l:=l) (by omega),Bool.false_or]
     by_cases h':i=l.length
     . subst h'; simp [bx]
     . rw [decide_eq_false h']; exact Y7v (by simp; omega)
def Z8n (a:Nat) (x:Int):Nat:=a ||| 2 ^ x.toNat
def Y2x (a:Nat) (l:List Int):Nat:=l.foldl Z8n a
def Y2m (l:List Int):Nat:=Y2x 0 l
theorem Y6h (a:Nat) (x:Int) (l:List Int):Y2x a (x :: l)=Y2x (Z8n a x) l:=rfl
theorem X8z:∀ (l:List Int) (a i:Nat),(∀ x ∈ l,0 <= x) -> (Y2x a l).testBit i=(a.testBit i || has l i)
 | [],a,i,_=>by simp [Y2x,has]
 | x :: l,a,i,h=>by
   rw [Y6h,X8z l _ i (fun y hy=>h y (List.mem_cons_of_mem _ hy)),Z8n,Nat.testBit_or,Y4w,Y7j,Bool.or_assoc];have h0:=h x (List.mem_cons_self ..)
   by_cases e:x=(i:Int)
   . subst e; simp
   . have e1:¬ i=x.toNat:=by omega
     rw [decide_eq_false e1,beq_false_of_ne e]
theorem Z0j {l:List Int} (h:∀ x ∈ l,0 <= x) (i:Nat):(Y2m l).testBit i=has l i:=by
 unfold Y2m; rw [X8z l 0 i h]; simp
theorem Q2v (n:Int) (h0:0 <= n) (h1:n < 2 ^ 62):IntKind.i64.wrap n=n:=by rw [IntKind.wrap_i64]; omega
theorem J1p {a b:Nat} (ha:a < 2 ^ 62) (hb:b < 2 ^ 62):bits .and .i64 (a:Int) (b:Int)=((a &&& b:Nat):Int):=(bits_nat .i64 62 (by decide) Q2v a b ha hb).1
theorem J1n (s i:Nat):s.testBit i=decide (s / 2 ^ i % 2=1):=by rw [Nat.testBit_eq_decide_div_mod_eq]
end Go.Tw
namespace Go.Tw
def f1 (y:Nat):Nat:=(y / 2 &&& 85) + (y &&& 85)
def f2 (y:Nat):Nat:=(y / 4 &&& 51) + (y &&& 51)
def f3 (y:Nat):Nat:=(y / 16 + y) &&& 15
def J1s (n k:Nat):Nat:=(List.range k).countP fun i=>n.testBit i
end Go.Tw
namespace Go.Tw
open Go.RowKit
theorem Z5b {x:Int} {l:List Int} (h:Z3c (x :: l)=true):∀ y ∈ l,x < y:=by
 induction l generalizing x with
 | nil=>intro y hy; cases hy
 | cons z l ih =>
   simp only [Z3c,Bool.and_eq_true,decide_eq_true_eq] at h;intro y hy
   rcases List.mem_cons.1 hy with rfl | hy
   . exact h.1
   . exact Int.lt_trans h.1 (ih h.2 y hy)
theorem Z4y {x:Int} {l:List Int} (h:Z3c (x :: l)=true):Z3c l=true:=by
 cases l with
 | nil=>rfl
 | cons z l=>simp only [Z3c,Bool.and_eq_true] at h; exact h.2
theorem count_one (a:Nat) (p:Nat -> Bool):∀ k,(List.range k).countP (fun i=>p i && decide (i=a))=if a < k then (if p a then 1 else 0) else 0
 | 0=>rfl
 | k + 1=>by
   rw [List.range_succ,List.countP_append,count_one a p k,List.countP_singleton]
   by_cases h:a < k
   . have h2:¬ k=a:=by omega
     have h3:a < k + 1:=by omega
     simp [h,h2,h3]
   . by_cases h2:k=a
     . subst h2; simp
     . have h3:¬ a < k + 1:=by omega
       simp [h,h2,h3]
theorem Y4p (l:List Nat) (p q:Nat -> Bool) (h:∀ i ∈ l,¬ (p i=true /\ q i=true)):l.countP (fun i=>p i || q i)=l.countP p + l.countP q:=by
 induction l with
 | nil=>rfl
 | cons x l ih =>
   have h0:=h x (List.mem_cons_self ..);rw [List.countP_cons,List.countP_cons,List.countP_cons,ih (fun i hi=>h i (List.mem_cons_of_mem _ hi))];cases hp:p x <;> cases hq:q x <;> simp_all <;> omega
theorem X0j (k:Nat) (p:Nat -> Bool):∀ l:List Int,Z3c l=true -> (∀ x ∈ l,0 <= x /\ x < (k:Int)) -> (List.range k).countP (fun i=>p i && has l i)=l.countP fun x=>p x.toNat
 | [],_,_=>by simp [has]
 | x :: l,ha,hb=>by
   have h0:=hb x (List.mem_cons_self ..);have e:(List.range k).countP (fun i=>p i && has (x :: l) i)=(List.range k).countP (fun i=>(p i && decide (i=x.toNat)) || (p i && has l i)):=by
    refine List.countP_congr fun i _=>?_;rw [Y7j];have:(x == (i:Int))=decide (i=x.toNat):=by
     by_cases h:x=(i:Int)
     . subst h; simp
     . rw [beq_false_of_ne h,decide_eq_false (by omega)]
    rw [this];cases p i <;> simp
   rw [e,Y4p,count_one,if_pos (by omega),X0j k p l (Z4y ha) (fun y hy=>hb y (List.mem_cons_of_mem _ hy)),List.countP_cons]
   . omega
   . rintro i _ ⟨h1,h2⟩
     simp only [Bool.and_eq_true,decide_eq_true_eq] at h1 h2;have:=Z5b ha (i:Int) (Z8p.1 h2.2);omega
theorem Y5x {out:List Bool} {l:List Int} (ha:Z3c l=true) (hb:∀ x ∈ l,0 <= x /\ x < 64):J1s (Q9x out &&& Y2m l) 64=failing out l:=by
 unfold J1s failing;rw [<- X0j 64 (fun i=>bx out i) l ha hb];refine List.countP_congr fun i _=>?_;rw [Nat.testBit_and,Q5p,Z0j (fun x hx=>(hb x hx).1)]
namespace Tree
def maskAt (t:Tree) (k:Nat):Nat:=if k < t.basics.length then 2 ^ k else Y2m (Q6z t.causes (k - t.basics.length))
def masks (t:Tree):List Int:=(List.range t.size).map fun k=>(t.maskAt k:Int)
def gt (t:Tree) (k:Nat):Nat × Int:=(Y2m (Q6i t.gates k),Z6g (Y5c t.gates k) (Z1p t.gates k) (Q6i t.gates k).length)
def gts (t:Tree):List (Nat × Int):=(List.range t.gates.length).map t.gt
end Tree
theorem Y5u (t:Tree):t.gts.length=t.gates.length:=by simp [Tree.gts]
theorem Valid.members {t:Tree} (h:Valid t) {k:Nat} (hk:k < t.causes.length):∀ x ∈ Q6z t.causes k,0 <= x /\ x < (t.basics.length:Int):=by
 have h1:=h.event (t.basics.length + k) (by unfold Tree.size; omega)
 unfold Tree.X3s at h1;rw [Q1r] at h1;have h2:=h1 (if t.basics.length + k < t.basics.length then 0 else X1q (Q6z t.causes (t.basics.length + k - t.basics.length)) t.basics.length) (by simp)
 rw [if_neg (by omega),Nat.add_sub_cancel_left] at h2
 exact (X4e (X2g h2).2).1
theorem X0h (t:Tree) (ev:Nat -> Bool):∀ k,(t.Q8f ev k).length=t.basics.length + k
 | 0=>by simp [Tree.Q8f,Tree.Z1k]
 | k + 1=>by rw [Tree.Q8f,List.length_append,X0h t ev k]; simp; omega
theorem Valid.Z5d {t:Tree} (h:Valid t) {k:Nat} (hk:k < t.gates.length):Z3c (Q6i t.gates k)=true /\ (∀ x ∈ Q6i t.gates k,0 <= x /\ x < 44):=by
 have h1:=X4e (X2g (h.inputs hk)).2;have:=h.size; have:=h.ng';unfold Tree.size at *;exact ⟨h1.2,fun x hx=>by have:=h1.1 x hx; omega⟩
theorem Valid.step {t:Tree} (h:Valid t) (ev:Nat -> Bool) {k:Nat} (hk:k < t.gates.length) :
    Q9x (t.Q8f ev (k + 1))=if (t.gt k).2 <= (J1s (Q9x (t.Q8f ev k) &&& (t.gt k).1) 64:Int) then Q9x (t.Q8f ev k) ||| 2 ^ (t.basics.length + k) else Q9x (t.Q8f ev k):=by
 obtain ⟨ha,hb⟩:=h.Z5d hk;rw [Tree.Q8f,Y9r,X0h,Tree.gt,Y5x ha (fun x hx=>by have:=hb x hx; omega)]
 unfold J0c;simp only [decide_eq_true_eq]
def RGt (_:World) (c:Nat -> Value) (x:Nat × Int):Prop:=c 0=.int .i64 (x.1:Nat) /\ c 1=.int .i64 x.2
theorem RGt.ext (w w':World) (c:Nat -> Value) (x:Nat × Int) (_:Ext w w') (h:RGt w c x):RGt w' c x:=h
def Y9j:World -> Value -> List (Nat × Int) -> Prop:=Go.Tw.Rows 2 RGt
theorem Y9j.ext {w w':World} {v:Value} {l:List (Nat × Int)} (h:Y9j w v l) (hx:Ext w w'):Y9j w' v l:=Rows.ext RGt.ext h hx
structure J1l (w:World) (fv gv:Value) (t:Tree):Prop where
 fails:Q0d w fv t.masks
 gates:Y9j w gv t.gts
theorem J1l.ext {w w':World} {fv gv:Value} {t:Tree} (h:J1l w fv gv t) (hx:Ext w w'):J1l w' fv gv t:=⟨h.fails.ext hx,h.gates.ext hx⟩
theorem Y9j.opened {w:World} {v:Value} {t:Tree} (h:Y9j w v t.gts) :
    ∃ A cap,v=.slice A t.gates.length cap /\ t.gates.length <= 17592186043904 /\ t.gates.length <= cap /\ ∀ k,k < t.gates.length -> ∃ b off,A=some ⟨b,off,none⟩ /\ b < w.heap.size /\
     w.cell? ⟨b,off + k * 2,none⟩=some (.int .i64 ((t.gt k).1:Nat)) /\ w.cell? ⟨b,off + k * 2 + 1,none⟩=some (.int .i64 (t.gt k).2):=by
 obtain ⟨c,⟨A,cap,hv,hn,hcap,hc⟩,h2⟩:=h;rw [Y5u] at hv hn hcap hc;refine ⟨A,cap,hv,hn,hcap,fun k hk=>?_⟩;obtain ⟨b,off,hA,h0⟩:=hc (k * 2) (by omega)
 obtain ⟨b',off',hA',h1⟩:=hc (k * 2 + 1) (by omega)
 rw [hA] at hA'; cases hA';obtain ⟨e0,e1⟩:=h2 k (by rw [Y5u]; exact hk)
 have e:t.gts[k]'(by rw [Y5u]; exact hk)=t.gt k:=by simp [Tree.gts]
 rw [e] at e0 e1;simp only [Nat.add_zero] at e0;refine ⟨b,off,hA,World.block_lt_of_cell? w _ h0,?_,?_⟩
 . rw [h0,e0]
 . rw [Nat.add_assoc]; exact h1.trans (congrArg some e1)
end Go.Tw
namespace Go.Tw
open Go.RowKit Go.Flow
def Blk (w:World) (g:Nat) (T:TypeId) (cs:Array Value):Prop:=w.heap[g]?=some (.cells cs T (0,0))
theorem Blk.made (w:World) (T:TypeId) (cs:Array Value):Blk (w.alloc (.cells cs T)) w.heap.size T cs:=by show (w.heap.push _)[w.heap.size]?=_; simp
theorem Blk.cell {w:World} {g:Nat} {T:TypeId} {cs:Array Value} (h:Blk w g T cs) (k:Nat):w.cell? ⟨g,k,none⟩=cs[k]?:=by unfold Blk at h; simp [World.cell?,h]
theorem Blk.frozen {w:World} {g:Nat} {T:TypeId} {cs:Array Value} (h:Blk w g T cs) (k:Nat):w.frozen? ⟨g,k,none⟩=false:=by unfold Blk at h; simp [World.frozen?,h]
theorem Blk.set {w:World} {g:Nat} {T:TypeId} {cs:Array Value} (h:Blk w g T cs) (k:Nat) (u:Value):Blk (w.setCell ⟨g,k,none⟩ u) g T (cs.setIfInBounds k u):=by
 unfold Blk at h ⊢;simp only [World.setCell,Array.getElem?_modify,if_true,h,Option.map_some]; rfl
theorem Blk.below {w w':World} {g B:Nat} {T:TypeId} {cs:Array Value} (h:Blk w g T cs) (hb:Below B w w') (hg:g < B):Blk w' g T cs:=by
 unfold Blk at h ⊢; rw [hb.block g hg]; exact h
theorem Blk.lt {w:World} {g:Nat} {T:TypeId} {cs:Array Value} (h:Blk w g T cs):g < w.heap.size:=(Array.getElem?_eq_some_iff.1 h).1
theorem Blk.ext {w w':World} {g:Nat} {T:TypeId} {cs:Array Value} (h:Blk w g T cs) (hx:Ext w w'):Blk w' g T cs:=h.below hx h.lt
theorem Blk.drew {w:World} {g:Nat} {T:TypeId} {cs:Array Value} (h:Blk w g T cs):Blk w.drew g T cs:=h
theorem Q0q.setCell {α:Type} {w:World} {base:Nat} {e:TypeId} {enc:α -> Value} {v:Value} {l:List α} (h:Q0q w base e enc v l) {p:Addr} (hp:p.block < base) (u:Value):Q0q (w.setCell p u) base e enc v l:=by
 obtain ⟨h1,h2⟩:=h;refine ⟨h1,?_⟩
 rcases h2 with h2 | ⟨g,cap,cur,hv,hb,hg,r⟩
 . exact .inl h2
 . exact .inr ⟨g,cap,cur,hv,hb,by rw [Below.heap_setCell _ _ _ _ (by omega)]; exact hg,r⟩
theorem Y6u {P:Program} {w:World} {g:Nat} {T:TypeId} {cs:Array Value} (h:Blk w g T cs):(loadCells ⟨g,0,none⟩ cs.size).run P w=.ok cs w:=by
 have gen:∀ (n i:Nat) (acc:Array Value),i + n=cs.size -> acc.toList=cs.toList.take i -> (loadCellsFrom ⟨g,0,none⟩ i n acc).run P w=.ok cs w:=by
  intro n
  induction n with
  | zero =>
    intro i acc hi ha;have:acc=cs:=by
     apply Array.toList_inj.1
     rw [ha,List.take_of_length_le (by simp; omega)]
    subst this;simp [loadCellsFrom]
  | succ n ih =>
    intro i acc hi ha;have h0:=h.cell i;have hlt:i < cs.size:=by omega
    rw [Array.getElem?_eq_getElem hlt] at h0;have ea:(⟨g,0,none⟩:Addr).add i=⟨g,i,none⟩:=by rw [addr_add,Nat.zero_add]
    rw [loadCellsFrom,ea];simp only [Sem.run_bind,load,Sem.run,h0,Result.andThen_ok];refine ih (i + 1) _ (by omega) ?_
    rw [Array.toList_push,ha,<- Array.getElem_toList (by simpa using hlt),List.take_append_getElem]
 exact gen cs.size 0 #[] (by omega) rfl
theorem Q7v {P:Program} {g:Nat} {T:TypeId}:∀ (vs:List Value) (i:Nat) (w:World) (cs:Array Value),Blk w g T cs -> (∀ u ∈ vs,u.oneCell'=true) -> i + vs.length=cs.size ->
    ∃ w',(storeCells ⟨g,0,none⟩ vs i).run P w=.ok () w' /\ Blk w' g T (cs.toList.take i ++ vs).toArray /\ (∀ n,n <= g -> Below n w w') /\ ∀ k,k ≠ g -> w'.heap[k]?=w.heap[k]?
 | [],i,w,cs,h,_,hi=>⟨w,by simp [storeCells],by rw [List.take_of_length_le (by simp at hi ⊢; omega),List.append_nil]; exact h,fun _ _=>Below.refl _ _,fun _ _=>rfl⟩
 | v :: vs,i,w,cs,h,h1,hi=>by
   have hlt:i < cs.size:=by simp at hi; omega
   have h0:=h.cell i;rw [Array.getElem?_eq_getElem hlt] at h0;have ea:(⟨g,0,none⟩:Addr).add i=⟨g,i,none⟩:=by rw [addr_add,Nat.zero_add]
   obtain ⟨w',hr,hb,hl,ho⟩:=Q7v vs (i + 1) (w.setCell ⟨g,i,none⟩ v) (cs.setIfInBounds i v) (h.set i v) (fun u hu=>h1 u (List.mem_cons_of_mem _ hu)) (by simp at hi ⊢; omega)
   refine ⟨w',?_,?_,fun n hn=>Below.trans ((Below.refl n w).setCell (p:=⟨g,i,none⟩) hn v) (hl n hn),fun k hk=>(ho k hk).trans (Below.heap_setCell _ _ _ _ hk)⟩
   . rw [storeCells,ea]
     simp only [Sem.run_bind,run_store P w _ v _ (h1 v (List.mem_cons_self ..)),h0,h.frozen i,Bool.false_eq_true,if_false,Result.andThen_ok];exact hr
   . have e:(cs.setIfInBounds i v).toList.take (i + 1) ++ vs=cs.toList.take i ++ v :: vs:=by
      rw [Array.toList_setIfInBounds,List.take_set,List.take_succ_eq_append_getElem (by simpa using hlt)]
      simp [Nat.min_eq_left (Nat.le_of_lt hlt)]
     rw [e] at hb; exact hb
theorem Q3a {P:Program} {w:World} {g:Nat} {T BT:TypeId} {cs:Array Value} (h:Blk w g BT cs) (hA:∀ w,(isAgg T).run P w=.ok true w) (hS:∀ w,(sizeOf T).run P w=.ok cs.size w):(loadVar T ⟨g,0,none⟩).run P w=.ok (.agg cs) w:=by
 unfold loadVar;simp only [Sem.run_bind,hA,Result.andThen_ok,if_true,hS,Y6u h,Sem.run_pure]
theorem Q7z {P:Program} {w:World} {ops:Array Oper} {rest:List Oper} {o:Oper} {a:Act} {Q:Exit -> Act -> World -> Prop} (hg:o.guard=none) (p:Operand) (T:TypeId) (hop:o.op=.load T p)
    (hA:∀ w,(isAgg T).run P w=.ok true w) {n:Nat} (hS:∀ w,(sizeOf T).run P w=.ok n w) {g:Nat} (hp:a.eval p=.pointer (some ⟨g,0,none⟩)) {BT:TypeId} {cs:Array Value} (hb:Blk w g BT cs) (hn:cs.size=n)
    (hK:wpList P ops Q rest (a.put o.dst (.agg cs)) w):wpList P ops Q (o :: rest) a w:=by
 subst hn;refine wpList_plain hg fun K' hK'=>?_;unfold Oper.wp;have hr:(execOp a.eval o).run P w=.ok (.value (.agg cs)) w:=by
  unfold execOp;simp only [hop,hp,Instr.loadAt,Instr.sureAddr,Sem.run_bind,Sem.run_pure,Result.andThen_ok,Q3a hb hA hS]
 rw [hr];exact hK' _ _ hK
theorem Q0s {P:Program} {w:World} {ops:Array Oper} {rest:List Oper} {o:Oper} {a:Act} {Q:Exit -> Act -> World -> Prop} (hg:o.guard=none) (p x:Operand) (T:TypeId) (hop:o.op=.store T p x)
    {n:Nat} (hS:∀ w,(sizeOf T).run P w=.ok n w) {g:Nat} (hp:a.eval p=.pointer (some ⟨g,0,none⟩)) {BT:TypeId} {cs vs:Array Value} (hx:a.eval x=.agg vs) (hb:Blk w g BT cs) (hn:cs.size=n) (hv:vs.size=n) (h1:∀ u ∈ vs.toList,u.oneCell'=true)
    (hK:∀ w',Blk w' g BT vs -> (∀ n,n <= g -> Below n w w') -> (∀ k,k ≠ g -> w'.heap[k]?=w.heap[k]?) -> wpList P ops Q rest (a.put o.dst undef) w'):wpList P ops Q (o :: rest) a w:=by
 refine wpList_plain hg fun K' hK'=>?_;unfold Oper.wp;obtain ⟨w',hr,hb',hl,ho⟩:=Q7v (P:=P) vs.toList 0 w cs hb h1 (by simp [hn,hv])
 have hs:(storeVar T ⟨g,0,none⟩ (.agg vs)).run P w=.ok () w':=by
  have hc:(Value.agg vs).cells=vs:=rfl;unfold storeVar;simp only [Sem.run_bind,hS,Result.andThen_ok];rw [if_neg (by rw [hc]; simp [hv])]
  exact hr
 have hr2:(execOp a.eval o).run P w=.ok .skip w':=by
  unfold execOp;simp only [hop,hp,hx,Instr.storeAt,Instr.sureAddr,Sem.run_bind,Sem.run_pure,Result.andThen_ok,hs]
 rw [hr2];exact hK' _ _ (hK w' (by simpa using hb') hl ho)
theorem Q1v {P:Program} {fn:Func} {p:Tmp} {T:TypeId} (h:fn.results=#[.cell p T]) {tmps:Array Value} {w:World} {g:Nat} (ht:tmps.getD p undef=.pointer (some ⟨g,0,none⟩)) {BT:TypeId} {cs:Array Value} (hb:Blk w g BT cs)
    (hA:∀ w,(isAgg T).run P w=.ok true w) (hS:∀ w,(sizeOf T).run P w=.ok cs.size w):(results fn tmps).run P w=.ok (.agg cs) w:=by
 unfold results;rw [h];simp only [List.mapM_toArray,List.mapM_cons,List.mapM_nil,Sem.run_bind,Sem.run_pure,ht,asAddr];simp [Q3a hb hA hS]
theorem Q3y {P:Program} {K:Value -> World -> Prop} {o:Oper} {a:Act} {w:World} {T:TypeId} (p x:Operand) (ho:o.op=.store T p x) (hT:∀ w,(sizeOf T).run P w=.ok 1 w) {g k:Nat} (hp:a.eval p=.pointer (some ⟨g,k,none⟩)) {u:Value} (hx:a.eval x=u) (hu:u.cells=#[u]) (h1:u.oneCell'=true) {BT:TypeId} {cs:Array Value} (hb:Blk w g BT cs) (hk:k < cs.size)
    (h:∀ v,K v (w.setCell ⟨g,k,none⟩ u)):gives P K ((execOp a.eval o).run P w):=by
 have h0:=hb.cell k;rw [Array.getElem?_eq_getElem hk] at h0;have hs:(storeVar T ⟨g,k,none⟩ u).run P w=.ok () (w.setCell ⟨g,k,none⟩ u):=by
  unfold storeVar;simp only [Sem.run_bind,hT,Result.andThen_ok,hu];rw [if_neg (by simp)]
  simp only [storeCells,Sem.run_bind,Sem.run_pure];have ea:(⟨g,k,none⟩:Addr).add 0=⟨g,k,none⟩:=by rw [addr_add,Nat.add_zero]
  rw [ea,run_store P w _ u _ h1];simp only [h0,hb.frozen k,Bool.false_eq_true,if_false,Result.andThen_ok]
 unfold execOp;simp only [ho,hp,hx,Instr.storeAt,Instr.sureAddr,Sem.run_bind,Sem.run_pure,Result.andThen_ok,hs];exact h _
theorem Q0q.only {α:Type} {w w':World} {base g:Nat} {e:TypeId} {enc:α -> Value} {v:Value} {l:List α} (h:Q0q w base e enc v l) (hg:g < base) (ho:∀ k,k ≠ g -> w'.heap[k]?=w.heap[k]?):Q0q w' base e enc v l:=by
 obtain ⟨h1,h2⟩:=h;refine ⟨h1,?_⟩
 rcases h2 with h2 | ⟨g',cap,cur,hv,hb,hg',r⟩
 . exact .inl h2
 . exact .inr ⟨g',cap,cur,hv,hb,by rw [ho _ (by omega)]; exact hg',r⟩
theorem Q0z.only {α:Type} {w w':World} {base g k:Nat} {e:TypeId} {enc:α -> List Value} {v:Value} {l:List α} (h:Q0z w base e k enc v l) (hg:g < base) (ho:∀ k,k ≠ g -> w'.heap[k]?=w.heap[k]?):Q0z w' base e k enc v l:=by
 obtain ⟨h1,h2⟩:=h;refine ⟨h1,?_⟩
 rcases h2 with h2 | ⟨g',cap,cur,hv,hb,hg',r⟩
 . exact .inl h2
 . exact .inr ⟨g',cap,cur,hv,hb,by rw [ho _ (by omega)]; exact hg',r⟩
theorem Q0z.shape {α:Type} {w:World} {base k:Nat} {e:TypeId} {enc:α -> List Value} {v:Value} {l:List α} (h:Q0z w base e k enc v l):∃ b c,v=.slice b l.length c /\ l.length <= c:=by
 rcases h.2 with ⟨rfl,h0⟩ | ⟨g,cap,cur,rfl,_,_,hc,_⟩
 . exact ⟨none,0,by rw [h0],by omega⟩
 . exact ⟨_,cap,rfl,hc⟩
theorem Q2p (w:World) (p:Addr) (u:Value):∀ k,k ≠ p.block -> (w.setCell p u).heap[k]?=w.heap[k]?:=fun _ hk=>Below.heap_setCell _ _ _ _ hk
theorem Q1t (w:World) (T:TypeId) (cs:Array Value):∃ W,w.alloc (.cells cs T)=W /\ Blk W w.heap.size T cs /\ Hid (Ext w W) /\ W.heap.size=w.heap.size + 1:=⟨_,rfl,Blk.made _ _ _,hid (Ext.box _ _),by simp⟩
theorem Q4e (w:World) (T:TypeId) (cs:Array Value) (T':TypeId) (cs':Array Value):∃ W,(w.alloc (.cells cs T)).alloc (.cells cs' T')=W /\ Blk W w.heap.size T cs /\ Blk W (w.heap.size + 1) T' cs' /\ Hid (Ext w W) /\ W.heap.size=w.heap.size + 1 + 1:=by
 obtain ⟨X,rfl,h1,h2,h3⟩:=Q1t w T cs;refine ⟨_,rfl,h1.ext (Ext.box _ _),?_,hid (h2.out.trans (Ext.box _ _)),by simp⟩
 rw [<- h3]; exact Blk.made _ _ _
theorem X2z (w:World) (T:TypeId) (cs:Array Value) (T':TypeId) (cs':Array Value) (T'':TypeId) (cs'':Array Value):∃ W,((w.alloc (.cells cs T)).alloc (.cells cs' T')).alloc (.cells cs'' T'')=W /\ Blk W w.heap.size T cs /\ Blk W (w.heap.size + 1) T' cs' /\ Blk W (w.heap.size + 1 + 1) T'' cs'' /\ Hid (Ext w W) /\ W.heap.size=w.heap.size + 1 + 1 + 1:=by
 obtain ⟨X,rfl,h1,h2,h3,h4⟩:=Q4e w T cs T' cs';refine ⟨_,rfl,h1.ext (Ext.box _ _),h2.ext (Ext.box _ _),?_,hid (h3.out.trans (Ext.box _ _)),by simp⟩
 rw [<- h4]; exact Blk.made _ _ _
end Go.Tw
namespace Go.Proofs
open Go.RowKit Go.Tw Go.Flow
def Q4d (s:Q0b) (l:List Int) (k:Nat):Int:=Q2c s (l.take k)
theorem X1d {s:Q0b} {l:List Int} {k:Nat} (hk:k < l.length):Q4d s l (k + 1)=Q4d s l k + Q0i s.members (ix l k).toNat:=by
 unfold Q4d Q2c;rw [List.take_add_one,List.getElem?_eq_getElem hk,List.map_append,List.sum_append,Q4s hk]; simp
theorem X5d {s:Q0b} (hv:Q1b s) {l:List Int} (hl:∀ x ∈ l,0 <= x /\ x < s.members.length):∀ k,k <= l.length -> 0 <= Q4d s l k /\ Q4d s l k <= 1000 * k
 | 0,_=>⟨Int.le_refl _,Int.le_refl _⟩
 | k + 1,h=>by
   obtain ⟨h1,h2⟩:=X5d hv hl k (by omega)
   have h3:=hl _ (List.getElem_mem (show k < l.length by omega))
   rw [<- Q4s] at h3;have:=hv.weights (ix l k).toNat (by omega)
   rw [X1d (by omega)]
   omega
end Go.Proofs
