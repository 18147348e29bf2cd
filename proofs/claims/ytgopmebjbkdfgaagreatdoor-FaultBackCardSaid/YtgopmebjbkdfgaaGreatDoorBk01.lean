/- The parts of a string between a byte; strings.Cut and strings.Split in these words. Plain law. A text and its tree: what is printed is read as it was, what is read is printed as it was. Plain law. What FaultBack asks of a valid tree and its text. Plain law. The law FaultTexts: the call returns true. Contracts of the law's own functions: within, valid. The law FaultBack: the call returns true. The law FaultBack: for every input the call returns true, and each argument reads afterwards as before: the row's statement, and its tied card. The listed tables of math/bits, strconv and unicode/utf8 are as the program's text lays them. -/
import Derived.Test.YtgopmebjbkdfgaaGreatDoorTx29
import Derived.Test.YtgopmebjbkdfgaaGreatDoorTx38
set_option linter.unusedVariables false
set_option linter.unusedSimpArgs false
set_option linter.constructorNameAsVariable false
namespace Go.Proofs
open Go.Lib
def glue (c:UInt8):List (List UInt8) → List UInt8
 | []=>[]
 | [x]=>x
 | x :: y :: r=>x ++ c :: glue c (y :: r)
theorem J0t (c:UInt8):∀ l,glue c (parts c l) = l
 | []=>rfl
 | b :: l=>by
   have ih:=J0t c l;obtain ⟨x,r,hp⟩:=Q5b c l
   by_cases hb:b = c
   · subst hb
     rw [parts_eq,hp];rw [hp] at ih;show [] ++ b :: glue b (x :: r) = _;rw [ih]; rfl
   · rw [X1o hb hp]
     rw [hp] at ih;cases r with
     | nil=>show b :: x = _; rw [← ih]; rfl
     | cons y r=>show b :: x ++ c :: glue c (y :: r) = _; rw [← ih]; rfl
end Go.Proofs
namespace Go.Proofs
open Go.Tw
def digits (x:Int):List UInt8:=dat (Q3l x)
def tailD (l:List Int):List UInt8:=(l.map fun x=>32 :: digits x).flatten
def lnD (word:List UInt8) (name:ByteArray) (l:List Int):List UInt8:=word ++ 32 :: (dat name ++ tailD l)
def J2z (b:Basic):List UInt8:=lnD Z0k b.name [b.chance]
def J2y (c:Q9i):List UInt8:=lnD Z5k c.name (c.chance :: c.members)
def J2w (g:Gate):List UInt8:=lnD Z7y g.kind (g.need :: g.inputs)
def J0k (t:Tree):List (List UInt8):=t.basics.map J2z ++ t.causes.map J2y ++ t.gates.map J2w
def textOf (ls:List (List UInt8)):List UInt8:=(ls.map (· ++ [10])).flatten
theorem J0p (a b:List (List UInt8)):textOf (a ++ b) = textOf a ++ textOf b:=by
 unfold textOf;rw [List.map_append,List.flatten_append]
theorem J0r (x:List UInt8):textOf [x] = x ++ [10]:=by simp [textOf]
theorem J1g:∀ {ls:List (List UInt8)},(∀ x ∈ ls,(10:UInt8) ∉ x) → parts 10 (textOf ls) = ls ++ [[]]
 | [],_=>rfl
 | x :: r,h=>by
   have e:textOf (x :: r) = x ++ 10 :: textOf r:=by simp [textOf]
   rw [e,Y0m (h x (List.mem_cons_self ..)),J1g fun y hy=>h y (List.mem_cons_of_mem _ hy)];rfl
theorem J1o:∀ {ls:List (List UInt8)} {x:List UInt8},(∀ y ∈ ls,(10:UInt8) ∉ y) → (10:UInt8) ∉ x → parts 10 (textOf ls ++ x) = ls ++ [x]
 | [],x,_,hx=>by show parts 10 x = [x]; exact Y2s hx
 | y :: r,x,h,hx=>by
   have e:textOf (y :: r) ++ x = y ++ 10 :: (textOf r ++ x):=by simp [textOf]
   rw [e,Y0m (h y (List.mem_cons_self ..)),J1o (fun z hz=>h z (List.mem_cons_of_mem _ hz)) hx];rfl
theorem J1r:∀ (ls:List (List UInt8)),glue 10 (ls ++ [[]]) = textOf ls
 | []=>rfl
 | x :: r=>by
   have ih:=J1r r;cases r with
   | nil=>show x ++ 10 :: [] = _; rw [J0r]
   | cons y r =>
     show x ++ 10 :: glue 10 ((y :: r) ++ [[]]) = _;rw [ih];simp [textOf]
theorem tail_cons (x:Int) (l:List Int):tailD (x :: l) = 32 :: (digits x ++ tailD l):=by simp [tailD]
theorem J1j:∀ (l:List Int) (x:List UInt8),(32:UInt8) ∉ x → (∀ y ∈ l,(32:UInt8) ∉ digits y) → parts 32 (x ++ tailD l) = x :: l.map digits
 | [],x,hx,_=>by
   have e:tailD [] = []:=rfl;rw [e,List.append_nil,Y2s hx]; rfl
 | y :: l,x,hx,h=>by
   rw [tail_cons,Y0m hx,J1j l _ (h y (List.mem_cons_self ..)) fun z hz=>h z (List.mem_cons_of_mem _ hz)];rfl
theorem J1m:∀ (l:List Int) (x:List UInt8),glue 32 (x :: l.map digits) = x ++ tailD l
 | [],x=>by
   have e:tailD [] = []:=rfl;rw [e,List.append_nil]; rfl
 | y :: l,x=>by
   show x ++ 32 :: glue 32 (digits y :: l.map digits) = _;rw [J1m l,tail_cons]
theorem J2b {α:Type} {u v:List α} (h:u ≠ []):(u ++ v).head? = u.head?:=by
 cases u with
 | nil=>exact absurd rfl h
 | cons x u=>rfl
theorem J1f (n:Nat):∀ b ∈ Lib.decDigits n,48 ≤ b.toNat ∧ b.toNat ≤ 57:=by
 induction n using Nat.strongRecOn with
 | _ n ih =>
   intro b hb;rw [Lib.decDigits] at hb
   split at hb
   · rw [List.mem_singleton] at hb
     subst hb;rw [UInt8.toNat_ofNat'];omega
   · rcases List.mem_append.1 hb with hb | hb
     · exact ih (n / 10) (by omega) b hb
     · rw [List.mem_singleton] at hb
       subst hb;rw [UInt8.toNat_ofNat'];omega
theorem J2u (x:Int):digits x = Lib.decDigits x.toNat:=rfl
theorem J1u (x:Int):(32:UInt8) ∉ digits x ∧ (10:UInt8) ∉ digits x:=by
 constructor <;> intro h <;> have:=J1f x.toNat _ h <;> revert this <;> decide
theorem J0s (a b:List UInt8) (n:Int):Q8d (a ++ b) n = Q8d b (Q8d a n):=by
 induction a generalizing n with
 | nil=>rfl
 | cons x a ih=>show Q8d (a ++ b) _ = _; rw [ih]; rfl
theorem J3d (n:Nat):Q8d (Lib.decDigits n) 0 = n:=by
 induction n using Nat.strongRecOn with
 | _ n ih =>
   rw [Lib.decDigits]
   split
   · rename_i h
     show 10 * 0 + (((UInt8.ofNat (48 + n)).toNat:Int) - 48) = n;rw [UInt8.toNat_ofNat'];omega
   · rename_i h
     rw [J0s,ih (n / 10) (by omega)]
     show 10 * ((n / 10:Nat):Int) + (((UInt8.ofNat (48 + n % 10)).toNat:Int) - 48) = n;rw [UInt8.toNat_ofNat'];omega
theorem J2x (n:Nat) (h:10 ≤ n):(Lib.decDigits n).head? ≠ some 48:=by
 induction n using Nat.strongRecOn with
 | _ n ih =>
   rw [Lib.decDigits,dif_neg (by omega)]
   by_cases h2:n / 10 < 10
   · rw [Lib.decDigits,dif_pos h2]
     intro e;injection e with e;have:=congrArg UInt8.toNat e;rw [UInt8.toNat_ofNat'] at this;have h3:(48:UInt8).toNat = 48:=rfl;omega
   · have h3:=ih (n / 10) (by omega) (by omega)
     have hne:Lib.decDigits (n / 10) ≠ []:=by
      rw [Lib.decDigits]
      split <;> simp
     intro e
     apply h3
     rw [J2b hne] at e;exact e
theorem J3a (n:Nat) (h:n < 100):(Lib.decDigits n).length ≤ 2:=by
 rw [Lib.decDigits]
 split
 · simp
 · rw [Lib.decDigits,dif_pos (by omega)]; simp
theorem J3f (n:Nat):Lib.decDigits n ≠ []:=by
 rw [Lib.decDigits]
 split <;> simp
theorem J1n {x:Int} (h0:0 ≤ x) (h1:x < 100):numOf (digits x) = some x:=by
 obtain ⟨n,rfl⟩:∃ n:Nat,x = n:=⟨x.toNat,by omega⟩
 rw [J2u,Int.toNat_natCast];have hok:Q8b (Lib.decDigits n) = true:=by
  unfold Q8b;have hl:=J3a n (by omega)
  have h2:(Lib.decDigits n).all X3h = true:=by
   rw [List.all_eq_true];exact fun b hb=>(Y0n b).2 (J1f n b hb)
  have h3:(Lib.decDigits n).isEmpty = false:=by rw [List.isEmpty_eq_false_iff]; exact J3f n
  rw [h2,h3,decide_eq_true (by omega)]
  by_cases h10:n < 10
  · rw [Lib.decDigits,dif_pos h10]; rfl
  · have h4:=J2x n (by omega)
    rw [show ((Lib.decDigits n).head? == some 48) = false by rw [beq_eq_false_iff_ne]; exact h4]
    simp
 unfold numOf;rw [if_pos hok,J3d]
theorem J0q:∀ {l:List Int},(∀ x ∈ l,0 ≤ x ∧ x < 100) → numsOf (l.map digits) = some l
 | [],_=>rfl
 | x :: l,h=>by
   have hx:=h x (List.mem_cons_self ..);rw [List.map_cons,Q6r,J1n hx.1 hx.2,J0q fun y hy=>h y (List.mem_cons_of_mem _ hy)];rfl
theorem J3c:∀ (k:Nat) (w:List UInt8),w.length = k → w ≠ [] → (∀ b ∈ w,48 ≤ b.toNat ∧ b.toNat ≤ 57) → (w.length = 1 ∨ w.head? ≠ some 48) → 0 ≤ Q8d w 0 ∧ (w.head? ≠ some 48 → 1 ≤ Q8d w 0) ∧ Lib.decDigits (Q8d w 0).toNat = w:=by
 intro k
 induction k with
 | zero=>intro w hw hne; exact absurd (List.length_eq_zero_iff.1 hw) hne
 | succ k ih =>
   intro w hw hne hd hh;obtain ⟨u,d,rfl⟩:∃ u d,w = u ++ [d]:=⟨w.dropLast,w.getLast hne,(List.dropLast_concat_getLast hne).symm⟩;have hdd:=hd d (by simp)
   by_cases hu:u = []
   · subst hu
     have e:Q8d ([] ++ [d]) 0 = (d.toNat:Int) - 48:=by show 10 * 0 + ((d.toNat:Int) - 48) = _; omega
     rw [e];refine ⟨by omega,fun h=>?_,?_⟩
     · have:d.toNat ≠ 48:=fun h2=>h (by show some d = some 48; rw [show d = 48 from UInt8.toNat_inj.1 h2])
       omega
     · have h1:((d.toNat:Int) - 48).toNat = d.toNat - 48:=by omega
       rw [h1,Lib.decDigits,dif_pos (by omega)]
       show [_] = [d]
       congr 1
       apply UInt8.toNat_inj.1
       rw [UInt8.toNat_ofNat'];omega
   · have hul:u.length = k:=by simpa using hw
     have hh2:u.head? ≠ some 48:=by
      rcases hh with hh | hh
      · simp at hh; exact absurd hh hu
      · intro e; exact hh (by rw [J2b hu]; exact e)
     obtain ⟨h1,h2,h3⟩:=ih u hul hu (fun b hb=>hd b (List.mem_append_left _ hb)) (.inr hh2)
     have h2':=h2 hh2;have e:Q8d (u ++ [d]) 0 = 10 * Q8d u 0 + ((d.toNat:Int) - 48):=by rw [J0s]; rfl
     rw [e];refine ⟨by omega,fun _=>by omega,?_⟩
     have h4:(10 * Q8d u 0 + ((d.toNat:Int) - 48)).toNat = 10 * (Q8d u 0).toNat + (d.toNat - 48):=by omega
     rw [h4,Lib.decDigits,dif_neg (by omega)]
     have h5:(10 * (Q8d u 0).toNat + (d.toNat - 48)) / 10 = (Q8d u 0).toNat:=by omega
     have h6:(10 * (Q8d u 0).toNat + (d.toNat - 48)) % 10 = d.toNat - 48:=by omega
     rw [h5,h6,h3]
     congr 2
     apply UInt8.toNat_inj.1
     rw [UInt8.toNat_ofNat'];omega
theorem num_inv {w:List UInt8} {n:Int} (h:numOf w = some n):digits n = w:=by
 unfold numOf at h
 split at h
 · rename_i hok
   injection h with h;subst h;unfold Q8b at hok;rw [Bool.and_eq_true,Bool.and_eq_true,Bool.and_eq_true,Bool.or_eq_true,List.all_eq_true] at hok;obtain ⟨⟨⟨h1,_⟩,h3⟩,h4⟩:=hok;have hne:w ≠ []:=by simpa using h1
   exact (J3c w.length w rfl hne (fun b hb=>(Y0n b).1 (h3 b hb)) (by
    rcases h4 with h4 | h4
    · exact .inl (of_decide_eq_true h4)
    · right; simpa using h4)).2.2
 · cases h
theorem J2c:∀ {ws:List (List UInt8)} {l:List Int},numsOf ws = some l → l.map digits = ws
 | [],l,h=>by injection h with h; subst h; rfl
 | w :: r,l,h=>by
   rw [Q6r] at h;cases hw:numOf w with
   | none=>rw [hw] at h; cases h
   | some n =>
     rw [hw] at h;obtain ⟨y,hy,rfl⟩:=Option.map_eq_some_iff.1 h;rw [List.map_cons,J2c hy,num_inv hw]
def J0n (s:ByteArray):Prop:=dat s ≠ [] ∧ (32:UInt8) ∉ dat s ∧ (10:UInt8) ∉ dat s
theorem J2h {word:List UInt8} {name:ByteArray} {l:List Int} (hw:(32:UInt8) ∉ word) (hn:J0n name):parts 32 (lnD word name l) = word :: dat name :: l.map digits:=by
 unfold lnD;rw [Y0m hw,J1j l _ hn.2.1 fun y _=>(J1u y).1]
theorem J0y {t:Tree} {word:List UInt8} {name:ByteArray} {n:Int} {ns:List Int} (hw:(32:UInt8) ∉ word) (hn:J0n name) (hl:∀ x ∈ n :: ns,0 ≤ x ∧ x < 100):Q0z t (lnD word name (n :: ns)) = Q2e t word (dat name) n ns:=by
 unfold Q0z;rw [J2h hw hn];show (if (dat name).isEmpty = true then none else match numsOf ((n :: ns).map digits) with | some (n :: ns)=>_ | _=>none) = _
 rw [J0q hl,if_neg (by rw [List.isEmpty_iff]; exact hn.1)]
def readAll:Tree → List (List UInt8) → Option Tree
 | t,[]=>some t
 | t,x :: r=>match Q0z t x with
   | none=>none
   | some t'=>readAll t' r
theorem J0l {t t':Tree} {x:List UInt8} {r:List (List UInt8)} (h:Q0z t x = some t'):readAll t (x :: r) = readAll t' r:=by
 rw [readAll,h]
theorem J0x:∀ {l bs:List Basic} {r:List (List UInt8)},(∀ b ∈ l,J0n b.name ∧ 0 ≤ b.chance ∧ b.chance < 100) → readAll ⟨bs,[],[]⟩ (l.map J2z ++ r) = readAll ⟨bs ++ l,[],[]⟩ r
 | [],bs,r,_=>by rw [List.append_nil]; rfl
 | b :: l,bs,r,h=>by
   obtain ⟨h1,h2,h3⟩:=h b (List.mem_cons_self ..);have e:Q0z ⟨bs,[],[]⟩ (J2z b) = some ⟨bs ++ [b],[],[]⟩:=by
    unfold J2z;rw [J0y (by decide) h1 (fun x hx=>by rw [List.mem_singleton] at hx; subst hx; exact ⟨h2,h3⟩)]
    unfold Q2e;rw [if_pos (by rfl)]
    rfl
   rw [List.map_cons,List.cons_append,J0l e,J0x fun x hx=>h x (List.mem_cons_of_mem _ hx),List.append_assoc];rfl
theorem J0z:∀ {l cs:List Q9i} {bs:List Basic} {r:List (List UInt8)},(∀ c ∈ l,J0n c.name ∧ ∀ x ∈ c.chance :: c.members,0 ≤ x ∧ x < 100) → readAll ⟨bs,cs,[]⟩ (l.map J2y ++ r) = readAll ⟨bs,cs ++ l,[]⟩ r
 | [],cs,bs,r,_=>by rw [List.append_nil]; rfl
 | c :: l,cs,bs,r,h=>by
   obtain ⟨h1,h2⟩:=h c (List.mem_cons_self ..);have e:Q0z ⟨bs,cs,[]⟩ (J2y c) = some ⟨bs,cs ++ [c],[]⟩:=by
    unfold J2y;rw [J0y (by decide) h1 h2]
    unfold Q2e;rw [if_neg (by exact Bool.false_ne_true),if_pos (by rfl)]
    rfl
   rw [List.map_cons,List.cons_append,J0l e,J0z fun x hx=>h x (List.mem_cons_of_mem _ hx),List.append_assoc];rfl
theorem J1i:∀ {l gs:List Gate} {bs:List Basic} {cs:List Q9i} {r:List (List UInt8)},(∀ g ∈ l,J0n g.kind ∧ ∀ x ∈ g.need :: g.inputs,0 ≤ x ∧ x < 100) → readAll ⟨bs,cs,gs⟩ (l.map J2w ++ r) = readAll ⟨bs,cs,gs ++ l⟩ r
 | [],gs,bs,cs,r,_=>by rw [List.append_nil]; rfl
 | g :: l,gs,bs,cs,r,h=>by
   obtain ⟨h1,h2⟩:=h g (List.mem_cons_self ..);have e:Q0z ⟨bs,cs,gs⟩ (J2w g) = some ⟨bs,cs,gs ++ [g]⟩:=by
    unfold J2w;rw [J0y (by decide) h1 h2]
    unfold Q2e;rw [if_neg (by exact Bool.false_ne_true),if_neg (by exact Bool.false_ne_true),if_pos (by rfl)]
    rfl
   rw [List.map_cons,List.cons_append,J0l e,J1i fun x hx=>h x (List.mem_cons_of_mem _ hx),List.append_assoc];rfl
theorem J2v {t t':Tree} {x:List UInt8} (h:Q0z t x = some t'):J0k t' = J0k t ++ [x]:=by
 unfold Q0z at h;have hg:=J0t 32 x;unfold X4j at h
 split at h
 · rename_i form name rest hp
   split at h
   · cases h
   · split at h
     · rename_i n ns hn
       have hr:=J2c hn;rw [hp,← hr] at hg;have hx:x = form ++ 32 :: (name ++ tailD (n :: ns)):=by
        rw [← hg];show form ++ 32 :: glue 32 (name :: (n :: ns).map digits) = _;rw [J1m]
       have hx2:x = lnD form ⟨name.toArray⟩ (n :: ns):=hx;unfold Q2e at h
       split at h
       · rename_i hc
         rw [Bool.and_eq_true,Bool.and_eq_true,Bool.and_eq_true,List.isEmpty_iff,List.isEmpty_iff,List.isEmpty_iff,beq_iff_eq] at hc;obtain ⟨⟨⟨rfl,rfl⟩,h3⟩,h4⟩:=hc;injection h with h;subst h;unfold J0k;rw [h3,h4,hx2];simp [J2z]
       · split at h
         · rename_i hc
           rw [Bool.and_eq_true,List.isEmpty_iff,beq_iff_eq] at hc;obtain ⟨rfl,h4⟩:=hc;injection h with h;subst h;unfold J0k;rw [h4,hx2];simp [J2y]
         · split at h
           · rename_i hc
             rw [beq_iff_eq] at hc;subst hc;injection h with h;subst h;unfold J0k;rw [hx2];simp [J2w]
           · cases h
     · cases h
 · cases h
theorem J2l:∀ {ls:List (List UInt8)} {t t':Tree},readAll t ls = some t' → J0k t' = J0k t ++ ls
 | [],t,t',h=>by injection h with h; subst h; rw [List.append_nil]
 | x :: r,t,t',h=>by
   rw [readAll] at h;cases hx:Q0z t x with
   | none=>rw [hx] at h; cases h
   | some t2 =>
     rw [hx] at h;rw [J2l h,J2v hx,List.append_assoc];rfl
theorem J1q:∀ {ls:List (List UInt8)} {t t':Tree} {k:Nat},readAll t ls = some t' → Q4x t k (ls ++ [[]]) = if t'.err = 0 then (t',0,0) else (noT,((k + ls.length:Nat):Int),t'.err)
 | [],t,t',k,h=>by injection h with h; subst h; rfl
 | x :: r,t,t',k,h=>by
   rw [readAll] at h;cases hx:Q0z t x with
   | none=>rw [hx] at h; cases h
   | some t2 =>
     rw [hx] at h;have ih:=J1q (k:=k + 1) h;obtain ⟨y,r2,hr⟩:∃ y r2,r ++ [[]] = y :: r2:=by cases r <;> exact ⟨_,_,rfl⟩
     rw [List.cons_append,hr];rw [hr] at ih;show (match Q0z t x with | none=>_ | some t'=>_) = _
     rw [hx];show Q4x t2 (k + 1) (y :: r2) = _;rw [ih,List.length_cons,show k + 1 + r.length = k + (r.length + 1) by omega]
theorem J1h:∀ {ls:List (List UInt8)} {t t':Tree} {k:Nat} {z:List UInt8},readAll t ls = some t' → z ≠ [] → Q4x t k (ls ++ [z]) = (noT,((k + ls.length:Nat):Int),26)
 | [],t,t',k,z,h,hz=>by
   show (if z.isEmpty = true then _ else _) = _
   rw [if_neg (by rw [List.isEmpty_iff]; exact hz)]
   rfl
 | x :: r,t,t',k,z,h,hz=>by
   rw [readAll] at h;cases hx:Q0z t x with
   | none=>rw [hx] at h; cases h
   | some t2 =>
     rw [hx] at h;have ih:=J1h (k:=k + 1) h hz;obtain ⟨y,r2,hr⟩:∃ y r2,r ++ [z] = y :: r2:=by cases r <;> exact ⟨_,_,rfl⟩
     rw [List.cons_append,hr];rw [hr] at ih;show (match Q0z t x with | none=>_ | some t'=>_) = _
     rw [hx];show Q4x t2 (k + 1) (y :: r2) = _;rw [ih,List.length_cons,show k + 1 + r.length = k + (r.length + 1) by omega]
theorem J1s:∀ {l:List (List UInt8)} {t y:Tree} {k:Nat} {a:Int},Q4x t k l = (y,a,0) → ∃ ls,l = ls ++ [[]] ∧ readAll t ls = some y ∧ y.err = 0
 | [],t,y,k,a,h=>by injection h with _ h; injection h with _ h; cases h
 | [x],t,y,k,a,h=>by
   unfold Q4x at h
   split at h
   · rename_i hx
     rw [List.isEmpty_iff] at hx;subst hx
     split at h
     · rename_i he
       injection h with h _;subst h;exact ⟨[],rfl,rfl,he⟩
     · rename_i he
       injection h with _ h;injection h with _ h;exact absurd h he
   · injection h with _ h; injection h with _ h; cases h
 | x :: z :: r,t,y,k,a,h=>by
   unfold Q4x at h;cases hx:Q0z t x with
   | none=>rw [hx] at h; injection h with _ h; injection h with _ h; cases h
   | some t' =>
     rw [hx] at h;obtain ⟨ls,h1,h2,h3⟩:=J1s (l:=z :: r) h;exact ⟨x :: ls,by rw [h1]; rfl,by rw [J0l hx]; exact h2,h3⟩
end Go.Proofs
namespace Go.Proofs
open Go.Tw
theorem J1k (a b:ByteArray) (l:List Int):dat (lineS a b l) = lnD (dat a) b l ++ [10]:=by
 rw [Z3z,Q7n,Y5a,Q7n,Q7n];unfold lnD tailD digits;have e1:dat spS = [32]:=rfl;have e2:dat nlS = [10]:=rfl;rw [e1,e2];simp
theorem J2s (t:Tree):∀ k,k ≤ t.basics.length → dat (X9p t k) = textOf ((t.basics.take k).map J2z)
 | 0,_=>rfl
 | k + 1,h=>by
   rw [Y6o (by omega),Q7n,J2s t k (by omega),J1k,List.take_succ_eq_append_getElem (by omega),List.map_append,J0p]
   congr 1
   show _ = textOf [J2z t.basics[k]];rw [J0r];unfold J2z bName Q1b;rw [getD_at (by omega)]
   rfl
theorem J2n (t:Tree) (s:ByteArray):∀ k,k ≤ t.causes.length → dat (Q3d t s k) = dat s ++ textOf ((t.causes.take k).map J2y)
 | 0,_=>by show dat s = dat s ++ []; rw [List.append_nil]
 | k + 1,h=>by
   rw [Q3d,Q7n,J2n t s k (by omega),J1k,List.take_succ_eq_append_getElem (by omega),List.map_append,J0p,List.append_assoc]
   congr 2
   show _ = textOf [J2y t.causes[k]];rw [J0r];unfold J2y cName Q1k Q0f;rw [getD_at (by omega)]
   rfl
theorem J2p (t:Tree) (s:ByteArray):∀ k,k ≤ t.gates.length → dat (Q4p t s k) = dat s ++ textOf ((t.gates.take k).map J2w)
 | 0,_=>by show dat s = dat s ++ []; rw [List.append_nil]
 | k + 1,h=>by
   rw [Q4p,Q7n,J2p t s k (by omega),J1k,List.take_succ_eq_append_getElem (by omega),List.map_append,J0p,List.append_assoc]
   congr 2
   show _ = textOf [J2w t.gates[k]];rw [J0r];unfold J2w Q2f Q3e Q0m;rw [getD_at (by omega)]
   rfl
theorem J0o {t:Tree} (he:t.err = 0):dat (Q7m t) = textOf (J0k t):=by
 have hp:Q7m t = Q4p t (Q3d t (X9p t t.basics.length) t.causes.length) t.gates.length:=by
  unfold Q7m X9p X5x;rw [if_pos he,List.take_of_length_le (by simp)]
 rw [hp,J2p t _ _ (Nat.le_refl _),J2n t _ _ (Nat.le_refl _),J2s t _ (Nat.le_refl _),List.take_length,List.take_length,List.take_length,← J0p,← J0p];rfl
theorem J1v {s:ByteArray} (h:Q3f s = 0):J0n s:=by
 have hb:nameB s = true:=by
  cases hq:nameB s with
  | true=>rfl
  | false=>unfold Q3f at h; rw [hq] at h; simp at h
 have key:∀ c:UInt8,(Q2i c || Q4m c) = true → c ≠ 32 ∧ c ≠ 10:=by
  intro c hc
  constructor <;> rintro rfl <;> revert hc <;> decide
 unfold nameB at hb;unfold J0n dat;cases hd:s.data.toList with
 | nil=>rw [hd] at hb; cases hb
 | cons c l =>
   rw [hd] at hb;simp only [Bool.and_eq_true,List.all_eq_true] at hb;obtain ⟨⟨h1,h2⟩,_⟩:=hb;have h0:=key c (by rw [h1]; rfl)
   refine ⟨by simp,?_,?_⟩
   · rw [List.mem_cons,not_or]
     exact ⟨fun e=>h0.1 e.symm,fun e=>(key _ (h2 _ e)).1 rfl⟩
   · rw [List.mem_cons,not_or]
     exact ⟨fun e=>h0.2 e.symm,fun e=>(key _ (h2 _ e)).2 rfl⟩
theorem J2k {s:ByteArray} (h:Q8j s = true):J0n s:=by
 unfold Q8j at h
 by_cases h1:s = X0g
 · rw [h1]; exact ⟨by decide,by decide,by decide⟩
 · by_cases h2:s = sOr
   · rw [h2]; exact ⟨by decide,by decide,by decide⟩
   · by_cases h3:s = Q6b
     · rw [h3]; exact ⟨by decide,by decide,by decide⟩
     · rw [Q5e h1,Q5e h2,Q5e h3] at h
       cases h
section
variable {t:Tree}
theorem J0u (hv:Valid t) {i:Nat} (hi:i < t.size):Q3f (t.nameAt i) = 0:=by
 have he:=hv.event i hi;unfold Tree.Q1f at he;rw [Q1h] at he;exact he _ (by simp)
theorem J2m (hv:Valid t):∀ b ∈ t.basics,J0n b.name ∧ 0 ≤ b.chance ∧ b.chance < 100:=by
 intro b hb;obtain ⟨k,hk,rfl⟩:=List.getElem_of_mem hb;have h:=hv.basic hk;have hn:=J0u hv (i:=k) (by unfold Tree.size; omega)
 unfold Tree.nameAt at hn;rw [if_pos hk] at hn;unfold bName at hn h;unfold Q1b at h;rw [getD_at hk] at hn h;exact ⟨J1v hn,h.1,h.2.1⟩
theorem J2t (hv:Valid t):∀ c ∈ t.causes,J0n c.name ∧ ∀ x ∈ c.chance :: c.members,0 ≤ x ∧ x < 100:=by
 intro c hc;obtain ⟨k,hk,rfl⟩:=List.getElem_of_mem hc;have h:=hv.cause hk;have hn:=J0u hv (i:=t.basics.length + k) (by unfold Tree.size; omega)
 unfold Tree.nameAt at hn;rw [if_neg (by omega),Nat.add_sub_cancel_left] at hn
 unfold cName at hn;unfold Q1k Q0f at h;rw [getD_at hk] at hn h;refine ⟨J1v hn,fun x hx=>?_⟩
 rcases List.mem_cons.1 hx with rfl | hx
 · exact h.1
 · exact h.2.2.2.1 x hx
theorem J2o (hv:Valid t):∀ g ∈ t.gates,J0n g.kind ∧ ∀ x ∈ g.need :: g.inputs,0 ≤ x ∧ x < 100:=by
 intro g hg;obtain ⟨k,hk,rfl⟩:=List.getElem_of_mem hg;have h:=hv.Z3q hk;have hn:=hv.kind hk;unfold Q2f at hn;unfold Q3e Q0m at h;rw [getD_at hk] at hn h;refine ⟨J2k hn,fun x hx=>?_⟩
 rcases List.mem_cons.1 hx with rfl | hx
 · exact h.1
 · exact h.2.2.2.1 x hx
theorem J1t (hv:Valid t):readAll noT (J0k t) = some t:=by
 unfold J0k noT;rw [List.append_assoc,J0x (J2m hv),J0z (J2t hv),← List.append_nil (t.gates.map J2w),J1i (J2o hv)];rfl
theorem J3b (l:List Int):(10:UInt8) ∉ tailD l:=by
 induction l with
 | nil=>exact List.not_mem_nil
 | cons x l ih =>
   rw [tail_cons,List.mem_cons,List.mem_append,not_or,not_or];exact ⟨by decide,(J1u x).2,ih⟩
theorem J3e {w:List UInt8} {n:ByteArray} {l:List Int} (hw:(10:UInt8) ∉ w) (hn:J0n n):(10:UInt8) ∉ lnD w n l:=by
 unfold lnD;rw [List.mem_append,List.mem_cons,List.mem_append,not_or,not_or,not_or];exact ⟨hw,by decide,hn.2.2,J3b l⟩
theorem J1y (hv:Valid t):∀ x ∈ J0k t,(10:UInt8) ∉ x:=by
 intro x hx;unfold J0k at hx
 rcases List.mem_append.1 hx with hx | hx
 · rcases List.mem_append.1 hx with hx | hx
   · obtain ⟨b,hb,rfl⟩:=List.mem_map.1 hx
     exact J3e (by decide) (J2m hv b hb).1
   · obtain ⟨c,hc,rfl⟩:=List.mem_map.1 hx
     exact J3e (by decide) (J2t hv c hc).1
 · obtain ⟨g,hg,rfl⟩:=List.mem_map.1 hx
   exact J3e (by decide) (J2o hv g hg).1
theorem J2d:∀ (l:List Int),(∀ x ∈ l,0 ≤ x ∧ x < 100) → (tailD l).length ≤ 3 * l.length
 | [],_=>by simp [tailD]
 | x :: l,h=>by
   have ih:=J2d l fun y hy=>h y (List.mem_cons_of_mem _ hy);have h1:=Q9z (h x (List.mem_cons_self ..)).1 (h x (List.mem_cons_self ..)).2;have h2:(digits x).length = (Q3l x).size:=Array.length_toList;rw [tail_cons,List.length_cons,List.length_append,List.length_cons];omega
theorem J2j {w:List UInt8} {n:ByteArray} {l:List Int} (hw:w.length ≤ 5) (hn:n.size ≤ 24) (hl:l.length ≤ 13) (hm:∀ x ∈ l,0 ≤ x ∧ x < 100):(lnD w n l).length ≤ 80:=by
 have h1:=J2d l hm;have h2:(dat n).length = n.size:=Array.length_toList;unfold lnD;rw [List.length_append,List.length_cons,List.length_append];omega
theorem J2i (hv:Valid t):∀ x ∈ J0k t,x.length ≤ 80:=by
 intro x hx;unfold J0k at hx
 rcases List.mem_append.1 hx with hx | hx
 · rcases List.mem_append.1 hx with hx | hx
   · obtain ⟨b,hb,rfl⟩:=List.mem_map.1 hx
     have h:=J2m hv b hb;obtain ⟨k,hk,rfl⟩:=List.getElem_of_mem hb;have hn:=J0u hv (i:=k) (by unfold Tree.size; omega)
     unfold Tree.nameAt bName at hn;rw [if_pos hk,getD_at hk] at hn;exact J2j (by decide) (X4r hn) (by simp) (fun x hx=>by rw [List.mem_singleton] at hx; subst hx; exact h.2)
   · obtain ⟨c,hc,rfl⟩:=List.mem_map.1 hx
     have h:=J2t hv c hc;obtain ⟨k,hk,rfl⟩:=List.getElem_of_mem hc;have h2:=hv.cause hk;unfold Q0f cName at h2;rw [getD_at hk] at h2;exact J2j (by decide) h2.2.2.2.2 (by rw [List.length_cons]; have:=h2.2.2.1; omega) h.2
 · obtain ⟨g,hg,rfl⟩:=List.mem_map.1 hx
   have h:=J2o hv g hg;obtain ⟨k,hk,rfl⟩:=List.getElem_of_mem hg;have h2:=hv.Z3q hk;unfold Q0m Q2f at h2;rw [getD_at hk] at h2;exact J2j (by decide) h2.2.2.2.2 (by rw [List.length_cons]; have:=h2.2.2.1; omega) h.2
theorem J1z:∀ (ls:List (List UInt8)),(∀ x ∈ ls,x.length ≤ 80) → (textOf ls).length ≤ 81 * ls.length
 | [],_=>by simp [textOf]
 | x :: r,h=>by
   have ih:=J1z r fun y hy=>h y (List.mem_cons_of_mem _ hy);have h1:=h x (List.mem_cons_self ..);have e:textOf (x :: r) = x ++ 10 :: textOf r:=by simp [textOf]
   rw [e,List.length_append,List.length_cons,List.length_cons];omega
theorem J0m:(J0k t).length = t.size + t.gates.length:=by
 unfold J0k Tree.size;simp [Nat.add_assoc]
theorem J0v (he:t.err = 0) (hs:t.size ≤ 8) (hg:t.gates.length ≤ 8):(Q7m t).size ≤ 1296:=by
 have h:=J1z _ (J2i (Valid.of he));rw [J0m] at h;have h2:(dat (Q7m t)).length = (Q7m t).size:=Array.length_toList;rw [J0o he] at h2;omega
theorem J1a (he:t.err = 0):parts 10 (dat (Q7m t)) = J0k t ++ [[]]:=by
 rw [J0o he,J1g (J1y (Valid.of he))]
theorem J1x (he:t.err = 0) (hs:t.size ≤ 8) (hg:t.gates.length ≤ 8):Q3s (Q7m t) = (t,0,0):=by
 have h:=J0v he hs hg;unfold Q3s;rw [if_neg (by omega)]
 show Q4x noT 0 (parts 10 (dat (Q7m t))) = _;rw [J1a he,J1q (J1t (Valid.of he)),if_pos he]
theorem J1c (he:t.err = 0):(Q2u 10 (Q7m t)).length = t.size + t.gates.length + 1:=by
 unfold Q2u;rw [List.length_map];show (parts 10 (dat (Q7m t))).length = _;rw [J1a he,List.length_append,J0m];rfl
def J1d (s:ByteArray):ByteArray:=s.extract 0 (s.size - 1)
theorem J2a (s:ByteArray):dat (J1d s) = (dat s).take (s.size - 1):=by
 unfold J1d;rw [X4x];show (List.drop 0 s.data.toList).take (s.size - 1 - 0) = _;rw [List.drop_zero,Nat.sub_zero]; rfl
theorem J2g (he:t.err = 0) (hs:t.size ≤ 8) (hg:t.gates.length ≤ 8):Q3s (J1d (Q7m t)) = (noT,((t.size + t.gates.length - 1:Nat):Int),26):=by
 have hv:=Valid.of he;have hp:=J0v he hs hg;have hz:(J1d (Q7m t)).size ≤ 1296:=by
  have h1:(dat (J1d (Q7m t))).length = (J1d (Q7m t)).size:=Array.length_toList;rw [J2a,List.length_take] at h1;have h2:(dat (Q7m t)).length = (Q7m t).size:=Array.length_toList;omega
 have hgl:0 < t.gates.length:=hv.ng;have hne:J0k t ≠ []:=fun e=>by have:=congrArg List.length e; rw [J0m,List.length_nil] at this; omega
 obtain ⟨ls,z,hls⟩:∃ ls z,J0k t = ls ++ [z]:=⟨_,_,(List.dropLast_concat_getLast hne).symm⟩;have hno:=J1y hv;have hra:=J1t hv;rw [hls] at hno hra;have hcount:=J0m (t:=t);rw [hls,List.length_append] at hcount;have hd:dat (J1d (Q7m t)) = textOf ls ++ z:=by
  rw [J2a];have h2:(dat (Q7m t)).length = (Q7m t).size:=Array.length_toList;rw [← h2,J0o he,hls,J0p,J0r,← List.append_assoc,List.length_append];show List.take ((textOf ls ++ z).length + 1 - 1) _ = _;rw [Nat.add_sub_cancel,List.take_left'];rfl
 have hz0:z ≠ []:=by
  rintro rfl;have hmem:([]:List UInt8) ∈ J0k t:=by rw [hls]; simp
  unfold J0k at hmem;have key:∀ w n l,lnD w n l ≠ []:=fun w n l e=>by have:=congrArg List.length e; unfold lnD at this; simp at this
  rcases List.mem_append.1 hmem with h | h
  · rcases List.mem_append.1 h with h | h
    · obtain ⟨b,_,e⟩:=List.mem_map.1 h; exact key _ _ _ e
    · obtain ⟨b,_,e⟩:=List.mem_map.1 h; exact key _ _ _ e
  · obtain ⟨b,_,e⟩:=List.mem_map.1 h; exact key _ _ _ e
 obtain ⟨t',ht'⟩:∃ t',readAll noT ls = some t':=by
  have happ:∀ (ls:List (List UInt8)) (t0:Tree) (y:Tree),readAll t0 (ls ++ [z]) = some y → ∃ t',readAll t0 ls = some t':=by
   intro ls
   induction ls with
   | nil=>intro t0 y _; exact ⟨t0,rfl⟩
   | cons x r ih =>
     intro t0 y h;rw [List.cons_append,readAll] at h;cases hx:Q0z t0 x with
     | none=>rw [hx] at h; cases h
     | some t2 =>
       rw [hx] at h;obtain ⟨t',h'⟩:=ih t2 y h;exact ⟨t',by rw [J0l hx]; exact h'⟩
  exact happ ls noT t hra
 unfold Q3s;rw [if_neg (by omega)]
 show Q4x noT 0 (parts 10 (dat (J1d (Q7m t)))) = _;rw [hd,J1o (fun y hy=>hno y (List.mem_append_left _ hy)) (hno z (by simp)),J1h ht' hz0]
 have e:0 + ls.length = t.size + t.gates.length - 1:=by simp at hcount; omega
 rw [e]
end
theorem J1w {s:ByteArray} {y:Tree} {a:Int} (h:Q3s s = (y,a,0)):y.err = 0 ∧ Q7m y = s:=by
 unfold Q3s at h
 split at h
 · injection h with _ h; injection h with _ h; cases h
 · obtain ⟨ls,h1,h2,h3⟩:=J1s h
   refine ⟨h3,Q8p ?_⟩;have hl:=J2l h2;have e:J0k noT = []:=rfl;rw [e,List.nil_append] at hl;rw [J0o h3,hl,← J1r,← h1];exact J0t 10 _
end Go.Proofs
namespace Go.Proofs
open Go.RowKit Go.Tw Go.Flow
def Z7r (w:World) (m:Int):Prop:=w.cell? ⟨0,0,none⟩ = some (.int .i64 m)
theorem Z7r.ext {w w':World} {m:Int} (h:Z7r w m) (hx:Ext w w'):Z7r w' m:=hx.cell h
theorem Y5g {t:Tree} (h:t.err = 0):Few t:=by
 have hv:=Valid.of h;have h1:=hv.size;have h2:=hv.ng';unfold Tree.size at h1;refine ⟨by omega,by omega,by omega,fun k hk=>?_,fun k hk=>?_⟩
 · have:=(hv.cause hk).2.2.1; omega
 · have:=(hv.Z3q hk).2.2.1; omega
end Go.Proofs
namespace Go.Proofs
open Go.RowKit Go.Tw Go.Flow
def J1p (t:Tree) (n:Nat) (w:World) (e:Ending) (w':World):Prop:=∃ q,e = .returned (.bool q) ∧ (q = true → t.err = 0 ∧ Fits t n ∧ t.size ≤ n) ∧ Ext w w' ∧ (q = false → ¬ (t.err = 0 ∧ Good t n))
theorem J1e {t:Tree} {n:Nat} {w w':World} {e:Ending} (q:Bool) (he:e = .returned (.bool q)) (hf:q = true → t.err = 0 ∧ Fits t n ∧ t.size ≤ n) (hx:Ext w w') (hg:q = false → ¬ (t.err = 0 ∧ Good t n)):J1p t n w e w':=⟨q,he,hf,hx,hg⟩
theorem J2q {t:Tree} {n:Nat} (h:Fits t n) (he:t.err = 0):t.size ≤ n:=by
 rcases h.s with h | h
 · exact h
 · exact absurd he h
set_option maxHeartbeats 1000000 in
theorem J2e (w:World) (v:Value) (t:Tree) (n:Nat) (ht:IsTree w v t) (hn:n ≤ 1000) :
    Calls Tryz.prog 15 #[v,.int .i64 n] w fun e w'=>J1p t n w e w':=by
 obtain ⟨a,b,c,rfl,h3⟩:=ht;obtain ⟨A,capa,rfl,hl1,hcap1,_⟩:=h3.basics.opened;obtain ⟨B,capb,rfl,hl2,hcap2,_⟩:=h3.causes.opened;obtain ⟨G,capg,rfl,hl3,hcap3,_⟩:=h3.gates.opened;have HT0:=Lib.hid h3;clear h3;go_enter Tryz.func15,Tryz.ntmps15;go_wp2_with fail;change Calls _ _ _ (w.alloc (.cells #[.slice A t.basics.length capa,.slice B t.causes.length capb,.slice G t.gates.length capg] 26)) _;obtain ⟨W,hWW,k0,HXW,eW⟩:=Q3a w 26 #[.slice A t.basics.length capa,.slice B t.causes.length capb,.slice G t.gates.length capg];rw [hWW];clear hWW;have HT:=Lib.hid (HT0.out.ext HXW.out);refine (Z1a _ _ t n ⟨_,_,_,rfl,HT.out⟩ hn).mono ?_;rintro e w1 ⟨q,rfl,hq,hx1,hg⟩;have kt:=k0.ext hx1;have c0:=kt.cell 0;have c1:=kt.cell 1;have c2:=kt.cell 2;simp only [Go.Tw.gA,Go.Tw.gB,Go.Tw.gC] at c0 c1 c2;have HX1:=Lib.hid hx1;clear kt k0 hx1;cases q with
 | false =>
   have HG:=Lib.hid (hg rfl);clear hq hg;clear c0 c1 c2;go_wp2;go_ret;exact J1e false rfl (fun h=>by cases h) (HXW.out.trans HX1.out) (fun _ h=>HG.out h.2)
 | true =>
   have HQ:=Lib.hid (hq rfl);clear hq hg;go_wp2_with fail;refine (Q5y _ _ t ⟨_,_,_,rfl,HT.out.ext HX1.out⟩).mono ?_;rintro e w2 ⟨rfl,hx2⟩;have HX2:=Lib.hid (HXW.out.trans (HX1.out.trans hx2));obtain ⟨E,hE⟩:∃ E,t.err = E:=⟨_,rfl⟩;rw [hE];have HE:=Lib.hid hE;obtain ⟨p,hp⟩:∃ p,(E == 0) = p:=⟨_,rfl⟩;have HP:=Lib.hid hp;clear hE hx2 c0 c1 c2;go_wp2;go_ret;refine J1e p rfl (fun h=>?_) HX2.out (fun h hh=>?_)
   · have h1:=HP.out
     rw [h,beq_iff_eq] at h1;have h2:t.err = 0:=HE.out.trans h1;exact ⟨h2,HQ.out,J2q HQ.out h2⟩
   · have h1:=HP.out
     rw [h,beq_eq_false_iff_ne] at h1;exact h1 (HE.out.symm.trans hh.1)
end Go.Proofs
namespace Go.Proofs
open Go.RowKit Go.Tw Go.Flow
theorem J2f {P:Program} {o:Oper} {a:Act} (x:Operand) (t:TypeId) (ho:o.op = .call { callee:=.builtin .len,args:=#[x],argTypes:=#[t] }) (hu:P.underlying t = some (.slice (P.elem t))) {A:Option Addr} {n c:Nat} (hx:a.eval x = .slice A n c) (w:World):(execOp a.eval o).run P w = .ok (.value (.int .i64 (n:Int))) w:=by
 unfold execOp;simp only [ho,resolve,invoke,builtin,Sem.run_bind,Sem.run_pure,Result.andThen_ok,List.map_toArray,List.map_cons,List.map_nil,hx,run_len_slice _ _ _ _ _ _ hu];rfl
theorem J3g (w:World) (v:Value) (t:Tree) (he:t.err = 0) (hv:IsTree w v t):Calls Tryz.prog 16 #[v] w fun e w'=>∃ u,e = .returned u ∧ IsTree w' u t ∧ Ext w w':=by
 have h:=Y5g he;exact Y5z w v t hv h.b h.c h.g
theorem J2r {t:Tree} (he:t.err = 0):0 < (Q7m t).size:=by
 have h2:(dat (Q7m t)).length = (Q7m t).size:=Array.length_toList;have h3:=J1c he;rw [← h2]
 rcases hd:dat (Q7m t) with _ | ⟨b,l⟩
 · exfalso
   unfold Q2u at h3;rw [List.length_map] at h3;have h4:(parts 10 (dat (Q7m t))).length = t.size + t.gates.length + 1:=h3;rw [hd] at h4;have h5:(parts 10 ([]:List UInt8)).length = 1:=rfl;have:=(Valid.of he).ng;rw [h5] at h4;omega
 · simp
set_option linter.unusedSimpArgs false in
set_option linter.unusedVariables false in
set_option maxRecDepth 100000 in
set_option maxHeartbeats 16000000 in
theorem J1l (w:World) (v:Value) (t:Tree) (s:ByteArray) (m:Int) (ht:IsTree w v t) (hT:Tab w) (hm:Z7r w m) :
    Calls Tryz.prog 6 #[v,.string s] w fun e w'=>e = .returned (.bool true) ∧ Ext w w':=by
 obtain ⟨a,b,c,rfl,h3⟩:=ht;obtain ⟨A,capa,rfl,hl1,hcap1,_⟩:=h3.basics.opened;obtain ⟨B,capb,rfl,hl2,hcap2,_⟩:=h3.causes.opened;obtain ⟨G,capg,rfl,hl3,hcap3,_⟩:=h3.gates.opened;have HT0:=Lib.hid h3;clear h3;have HTAB:=Lib.hid hT;have HMX:=Lib.hid hm;clear hT hm;go_enter Tryz.func6,Tryz.ntmps6;go_wp2_with fail;change Calls _ _ _ (w.alloc (.cells #[.slice A t.basics.length capa,.slice B t.causes.length capb,.slice G t.gates.length capg] 26)) _;obtain ⟨W,hWW,k0,HXW,eW⟩:=Q3a w 26 #[.slice A t.basics.length capa,.slice B t.causes.length capb,.slice G t.gates.length capg];rw [hWW];clear hWW;obtain ⟨WB,hWB⟩:∃ X,W = X:=⟨_,rfl⟩;rw [hWB] at HXW eW k0 ⊢;clear hWB;have HT:=Lib.hid (HT0.out.ext HXW.out);have K0:=Lib.hid k0;replace HTAB:=Lib.hid (HTAB.out.ext HXW.out);replace HMX:=Lib.hid (HMX.out.ext HXW.out);have HW0:=Lib.hid HXW.out;have HX:=Lib.hid (Ext.refl WB);clear k0 HXW
 skip
 refine (X4v _ HTAB.out).mono ?_;rintro e w1 ⟨rfl,hx⟩;have hxx:Ext WB w1:=hx;replace HX:=Lib.hid (HX.out.trans hxx);replace HTAB:=Lib.hid (HTAB.out.ext hxx);replace HMX:=Lib.hid (HMX.out.ext hxx);replace K0:=Lib.hid (K0.out.ext hxx);replace HT:=Lib.hid (HT.out.ext hxx);clear hx hxx;have k0_0:=K0.out.cell 0;have k0_1:=K0.out.cell 1;have k0_2:=K0.out.cell 2;simp only [Go.Tw.gA,Go.Tw.gB,Go.Tw.gC] at k0_0 k0_1 k0_2;go_wp2_with fail;clear k0_0 k0_1 k0_2;refine (J2e _ _ t 8 ⟨_,_,_,rfl,HT.out⟩ (by omega)).mono ?_
 rintro e w2 ⟨q,rfl,hq,hx,_⟩;replace HX:=Lib.hid (HX.out.trans hx);replace HTAB:=Lib.hid (HTAB.out.ext hx);replace HMX:=Lib.hid (HMX.out.ext hx);replace K0:=Lib.hid (K0.out.ext hx);replace HT:=Lib.hid (HT.out.ext hx);clear hx;cases q with
 | false =>
   clear hq;go_wp2_with fail;refine (X4v _ HTAB.out).mono ?_;rintro e w3 ⟨rfl,hx⟩;have hxx:Ext w2 w3:=hx;replace HX:=Lib.hid (HX.out.trans hxx);replace HTAB:=Lib.hid (HTAB.out.ext hxx);replace HMX:=Lib.hid (HMX.out.ext hxx);replace K0:=Lib.hid (K0.out.ext hxx);replace HT:=Lib.hid (HT.out.ext hxx);clear hx hxx;go_wp2;go_ret;exact ⟨rfl,HW0.out.trans HX.out⟩
 | true =>
   have HE:=Lib.hid (hq rfl).1;have HF:=Lib.hid ((hq rfl).2.1.few (by omega))
   have HSZ:=Lib.hid (hq rfl).2.2;have hg8:=(hq rfl).2.1.g8;have hng:=(Valid.of HE.out).ng';have HG8:Hid (t.gates.length ≤ 8):=Lib.hid (by omega)
   clear hq hg8 hng
   by_cases hl1:(400:Int) < (s.size:Int)
   · skip
     go_wp2_with fail;refine (X4v _ HTAB.out).mono ?_;rintro e w3 ⟨rfl,hx⟩;have hxx:Ext w2 w3:=hx;replace HX:=Lib.hid (HX.out.trans hxx);replace HTAB:=Lib.hid (HTAB.out.ext hxx);replace HMX:=Lib.hid (HMX.out.ext hxx);replace K0:=Lib.hid (K0.out.ext hxx);replace HT:=Lib.hid (HT.out.ext hxx);clear hx hxx;go_wp2;go_ret;exact ⟨rfl,HW0.out.trans HX.out⟩
   have HLS:Hid (s.size ≤ 100000):=Lib.hid (by omega)
   have HPS1:=Lib.hid (J0v HE.out HSZ.out HG8.out);have HPS2:=Lib.hid (J2r HE.out);obtain ⟨PS,hPS⟩:∃ p,Q7m t = p:=⟨_,rfl⟩;have HPS:=Lib.hid hPS;have hps1:=HPS1.out;have hps2:=HPS2.out;rw [hPS] at hps1 hps2;obtain ⟨N,hN⟩:∃ N,PS.size = N + 1:=⟨PS.size - 1,by omega⟩
   have HN:=Lib.hid hN;have HP1:Hid (∀ w m,Z7r w m → Calls Tryz.prog 26 #[.string PS] w fun e w'=>∃ x,e = .returned (.tuple #[x,.int .i64 0,.int .i64 0]) ∧ IsTree w' x t ∧ Ext w w'):=Lib.hid fun w m hm=>by
    have h:=X7t w PS m hm (by omega)
    rw [← hPS,J1x HE.out HSZ.out HG8.out,hPS] at h;exact h
   obtain ⟨Q,hQ⟩:∃ q,t.size + t.gates.length - 1 = q:=⟨_,rfl⟩;have HQ:=Lib.hid hQ;have HP3:Hid (∀ w m,Z7r w m → Calls Tryz.prog 26 #[.string (PS.extract 0 N)] w fun e w'=>∃ x,e = .returned (.tuple #[x,.int .i64 Q,.int .i64 26]) ∧ IsTree w' x noT ∧ Ext w w'):=Lib.hid fun w m hm=>by
    have e:PS.extract 0 N = J1d (Q7m t):=by unfold J1d; rw [hPS,hN]; rfl
    have hsz:(PS.extract 0 N).size ≤ 100000:=by rw [ByteArray.size_extract]; omega
    have h:=X7t w (PS.extract 0 N) m hm hsz;rw [e,J2g HE.out HSZ.out HG8.out,hQ,← e] at h;exact h
   obtain ⟨⟨DD,AT,EP⟩,hPT⟩:∃ r,Q3s s = r:=⟨_,rfl⟩;have HPT:=Lib.hid hPT;have HPP:Hid (∀ w m,Z7r w m → Calls Tryz.prog 26 #[.string s] w fun e w'=>∃ x,e = .returned (.tuple #[x,.int .i64 AT,.int .i64 EP]) ∧ IsTree w' x DD ∧ Ext w w'):=Lib.hid fun w m hm=>by
    have h:=X7t w s m hm HLS.out;rw [hPT] at h;exact h
   have hsz8:=HSZ.out;have hgl8:=HG8.out;have hgp:=(Valid.of HE.out).ng;have hsp:1 ≤ t.size:=by have:=(Valid.of HE.out).nb; unfold Tree.size; omega
   obtain ⟨sz,hsz⟩:∃ x,t.size = x:=⟨_,rfl⟩;have HSE:=Lib.hid hsz;rw [hsz] at hsz8 hQ hsp;obtain ⟨NP,hNP⟩:∃ n,(Q2u 10 PS).length = n:=⟨_,rfl⟩;have HNP:=Lib.hid hNP;have hnp:NP = sz + t.gates.length + 1:=by rw [← hNP,← hPS,← hsz]; exact J1c HE.out
   have v1:IntKind.i64.wrap ((sz:Int) + (t.gates.length:Int)) = (sz:Int) + (t.gates.length:Int):=wrap_in (by omega) (by omega)
   have v2:IntKind.i64.wrap ((sz:Int) + (t.gates.length:Int) + 1) = (sz:Int) + (t.gates.length:Int) + 1:=wrap_in (by omega) (by omega)
   have v3:((NP:Int) != (sz:Int) + (t.gates.length:Int) + 1) = false:=by rw [bne_eq_false_iff_eq]; omega
   have v4:IntKind.i64.wrap ((sz:Int) + (t.gates.length:Int) - 1) = (Q:Int):=by rw [wrap_in (by omega) (by omega)]; omega
   have v5:IntKind.i64.wrap ((PS.size:Int) - 1) = (N:Int):=by rw [wrap_in (by omega) (by omega)]; omega
   have v6:(N:Int) ≤ (PS.size:Int):=by omega
   have V1:=Lib.hid v1;have V2:=Lib.hid v2;have V3:=Lib.hid v3;have V4:=Lib.hid v4;have V5:=Lib.hid v5;have V6:=Lib.hid v6;clear hPS hps1 hps2 hN hQ hPT hsz8 hgl8 hgp hsp hsz hNP hnp v1 v2 v3 v4 v5 v6;have k0_0:=K0.out.cell 0;have k0_1:=K0.out.cell 1;have k0_2:=K0.out.cell 2;simp only [Go.Tw.gA,Go.Tw.gB,Go.Tw.gC] at k0_0 k0_1 k0_2;go_wp2_with fail;clear k0_0 k0_1 k0_2;refine (Y8i _ _ (t) ⟨_,_,_,rfl,HT.out⟩ HF.out).mono ?_;rintro e w3 ⟨uu,rfl,hu,hx⟩;have hxx:Ext w2 w3:=hx;replace HX:=Lib.hid (HX.out.trans hxx);replace HTAB:=Lib.hid (HTAB.out.ext hxx);replace HMX:=Lib.hid (HMX.out.ext hxx);replace K0:=Lib.hid (K0.out.ext hxx);replace HT:=Lib.hid (HT.out.ext hxx);have HU:=Lib.hid (hu);clear hu;clear hx hxx;go_wp2_with fail;refine (X2n _ _ t HU.out).mono ?_;rintro e w4 ⟨rfl,hx⟩;have hxx:Ext w3 w4:=hx;replace HX:=Lib.hid (HX.out.trans hxx);replace HTAB:=Lib.hid (HTAB.out.ext hxx);replace HMX:=Lib.hid (HMX.out.ext hxx);replace K0:=Lib.hid (K0.out.ext hxx);replace HT:=Lib.hid (HT.out.ext hxx);replace HU:=Lib.hid (HU.out.ext hxx);clear hx hxx;clear HU;rw [HE.out,HPS.out];go_wp2_with fail;refine (HP1.out _ m HMX.out).mono ?_;rintro e w5 ⟨x,rfl,hx1,hx⟩;have hxx:Ext w4 w5:=hx;replace HX:=Lib.hid (HX.out.trans hxx);replace HTAB:=Lib.hid (HTAB.out.ext hxx);replace HMX:=Lib.hid (HMX.out.ext hxx);replace K0:=Lib.hid (K0.out.ext hxx);replace HT:=Lib.hid (HT.out.ext hxx);have HD:=Lib.hid (hx1);clear hx1;clear hx hxx;obtain ⟨y1,y2,y3,rfl,h3⟩:=HD.out;obtain ⟨A5,capA5,rfl,_,_,_⟩:=h3.basics.opened;obtain ⟨B5,capB5,rfl,_,_,_⟩:=h3.causes.opened;obtain ⟨G5,capG5,rfl,_,_,_⟩:=h3.gates.opened;replace HD:=Lib.hid h3;clear h3;have HKN:=Lib.hid (Blk.made w5 33 #[.slice A5 t.basics.length capA5,.slice B5 t.causes.length capB5,.slice G5 t.gates.length capG5]);have hxn:=Ext.box w5 (.cells #[.slice A5 t.basics.length capA5,.slice B5 t.causes.length capB5,.slice G5 t.gates.length capG5] 33);go_upto_region 5 with fail;replace HX:=Lib.hid (HX.out.trans hxn);replace HTAB:=Lib.hid (HTAB.out.ext hxn);replace HMX:=Lib.hid (HMX.out.ext hxn);replace K0:=Lib.hid (K0.out.ext hxn);replace HT:=Lib.hid (HT.out.ext hxn);replace HD:=Lib.hid (HD.out.ext hxn);have K7:=Lib.hid (HKN.out);clear HKN hxn;obtain ⟨g7,hg7⟩:∃ g,w5.heap.size = g:=⟨_,rfl⟩;rw [hg7] at K7 ⊢;obtain ⟨w6,hww⟩:∃ X,w5.alloc (.cells #[.slice A5 t.basics.length capA5,.slice B5 t.causes.length capB5,.slice G5 t.gates.length capG5] 33) = X:=⟨_,rfl⟩;rw [hww] at HX HTAB HMX K0 HT HD K7 ⊢;clear hww hg7;obtain ⟨gT,hgT⟩:∃ g,w.heap.size = g:=⟨_,rfl⟩;rw [hgT] at K0 ⊢;clear hgT;have hdr:=(Ext.refl w6).drew;have v1:=V1.out;have v2:=V2.out;have v3:=V3.out;refine Flow.Q2p [.plain,.plain,.plain,.plain,.plain,.plain,.plain,.plain,.plain,.plain,.plain,.world,.world,.world,.world,.plain,.plain,.plain,.plain,.world,.plain,.world,.world,.plain,.world,.plain,.plain,.plain,.plain,.plain] [0,1,2,3,4,5,6,7,8,9,10,11,12,13,14,15,16,17,18,19,20,21,22,23,24,25,26,27,28,29] [[],[0],[1],[2],[2,3],[2,4],[2,5],[6],[6,7],[6,8],[6,9],[10],[10,11],[10],[10,12,13],[10,14],[10,15],[14,16],[17],[17,18],[17,19],[17],[17,19,21],[17],[17,23],[17,24],[17,22,25],[17,26],[17,20,27],[17,28]]
    [.is 0 (fun v=>.int .i64 0),.is 1 (fun v=>.bool false),.is 2 (fun v=>.bool false),.is 3 (fun v=>.int .i64 0),.is 4 (fun v=>.bool false),.is 5 (fun v=>.bool false),.is 6 (fun v=>.bool false),.is 7 (fun v=>.int .i64 0),.is 8 (fun v=>.bool false),.is 9 (fun v=>.bool false),.is 10 (fun v=>.bool false),.is 11 (fun v=>.agg #[.slice A5 t.basics.length capA5,.slice B5 t.causes.length capB5,.slice G5 t.gates.length capG5]),⟨fun v wz=>IsTree wz (v 12) t,fun _ _ _ hx h=>h.ext hx⟩,.is 13 (fun v=>.agg #[.slice A t.basics.length capa,.slice B t.causes.length capb,.slice G t.gates.length capg]),.is 14 (fun v=>.bool true),.is 15 (fun v=>.bool false),.is 16 (fun v=>.bool false),.is 17 (fun v=>.bool false),.is 18 (fun v=>.string PS),⟨fun v wz=>(fun v w'=>∃ A c,v 19 = .slice A NP c) v wz,by intro v a b _ h; exact h⟩,.is 20 (fun v=>.int .i64 (NP:Int)),.is 21 (fun v=>.agg #[.slice A t.basics.length capa,.slice B t.causes.length capb,.slice G t.gates.length capg]),.is 22 (fun v=>.int .i64 (sz:Int)),.is 23 (fun v=>.pointer (some ⟨gT,2,none⟩)),.is 24 (fun v=>.slice G t.gates.length capg),.is 25 (fun v=>.int .i64 ((t.gates.length:Nat):Int)),.is 26 (fun v=>.int .i64 ((sz:Int) + (t.gates.length:Int))),.is 27 (fun v=>.int .i64 ((sz:Int) + (t.gates.length:Int) + 1)),.is 28 (fun v=>.bool false),.is 29 (fun v=>.bool false)]
    (by kernel_rfl) rfl (by kernel_rfl) ⟨?g0,?g1,?g2,?g3,?g4,?g5,?g6,?g7,?g8,?g9,?g10,?g11,?g12,?g13,?g14,?g15,?g16,?g17,?g18,?g19,?g20,?g21,?g22,?g23,?g24,?g25,?g26,?g27,?g28,?g29,trivial⟩ ?post
   case g0 =>
    intro v w1 hx;intro bb hbb;subst hbb;refine ⟨_,fun w=>?_,rfl⟩;go_simp
   case g1 =>
    intro v w1 hx (q0:v 0 = _);intro bb hbb;subst hbb;refine ⟨_,fun w=>?_,rfl⟩;go_simp
   case g2 =>
    intro v w1 hx (q1:v 1 = _);intro bb hbb;subst hbb;refine ⟨_,fun w=>?_,rfl⟩;go_simp
   case g3 =>
    intro v w1 hx (q2:v 2 = _);intro bb hbb;refine Flow.Q0p (d:=45) rfl rfl (by rw [hbb]; simp only [size_put]; exact (by decide:45 < 116)) (by rw [hbb]; dsimp only; (try simp (discharger:=decide) only [eval_put_ne]); rw [Q0a (by simp only [size_put]; exact (by decide:45 < 116))]; exact q2) ?_
    subst hbb;refine ⟨_,fun w=>?_,rfl⟩;go_simp
   case g4 =>
    intro v w1 hx (q2:v 2 = _) (q3:v 3 = _);intro bb hbb;refine Flow.Q0p (d:=45) rfl rfl (by rw [hbb]; simp only [size_put]; exact (by decide:45 < 116)) (by rw [hbb]; dsimp only; (try simp (discharger:=decide) only [eval_put_ne]); rw [Q0a (by simp only [size_put]; exact (by decide:45 < 116))]; exact q2) ?_
    subst hbb;refine ⟨_,fun w=>?_,rfl⟩;go_simp
   case g5 =>
    intro v w1 hx (q2:v 2 = _) (q4:v 4 = _);intro bb hbb;subst hbb;refine ⟨_,fun w=>?_,rfl⟩;go_simp
   case g6 =>
    intro v w1 hx (q2:v 2 = _) (q5:v 5 = _);intro bb hbb;subst hbb;refine ⟨_,fun w=>?_,rfl⟩;go_simp
   case g7 =>
    intro v w1 hx (q6:v 6 = _);intro bb hbb;refine Flow.Q0p (d:=49) rfl rfl (by rw [hbb]; simp only [size_put]; exact (by decide:49 < 116)) (by rw [hbb]; dsimp only; (try simp (discharger:=decide) only [eval_put_ne]); rw [Q0a (by simp only [size_put]; exact (by decide:49 < 116))]; exact q6) ?_
    subst hbb;refine ⟨_,fun w=>?_,rfl⟩;go_simp
   case g8 =>
    intro v w1 hx (q6:v 6 = _) (q7:v 7 = _);intro bb hbb;refine Flow.Q0p (d:=49) rfl rfl (by rw [hbb]; simp only [size_put]; exact (by decide:49 < 116)) (by rw [hbb]; dsimp only; (try simp (discharger:=decide) only [eval_put_ne]); rw [Q0a (by simp only [size_put]; exact (by decide:49 < 116))]; exact q6) ?_
    subst hbb;refine ⟨_,fun w=>?_,rfl⟩;go_simp
   case g9 =>
    intro v w1 hx (q6:v 6 = _) (q8:v 8 = _);intro bb hbb;subst hbb;refine ⟨_,fun w=>?_,rfl⟩;go_simp
   case g10 =>
    intro v w1 hx (q6:v 6 = _) (q9:v 9 = _);intro bb hbb;subst hbb;refine ⟨_,fun w=>?_,rfl⟩;go_simp
   case g11 =>
    intro v w1 hx (q10:v 10 = _);intro bb hbb;refine Flow.Q0p (d:=53) rfl rfl (by rw [hbb]; simp only [size_put]; exact (by decide:53 < 116)) (by rw [hbb]; dsimp only; (try simp (discharger:=decide) only [eval_put_ne]); rw [Q0a (by simp only [size_put]; exact (by decide:53 < 116))]; exact q10) ?_
    intro K2 hK2;have o1:bb.eval (.tmp 7) = .pointer (some ⟨g7,0,none⟩):=by rw [hbb]; dsimp only; (try simp (discharger:=decide) only [eval_put_ne]); rfl
    exact Q0n (.tmp 7) _ rfl Tryz.Q2n Tryz.Q0v o1 (K7.out.ext (hdr.trans hx)) rfl (hK2 _ _ (Ext.refl _) rfl)
   case g12 =>
    intro v w1 hx (q10:v 10 = _) (q11:v 11 = _);intro bb hbb;refine Flow.Q0p (d:=53) rfl rfl (by rw [hbb]; simp only [size_put]; exact (by decide:53 < 116)) (by rw [hbb]; dsimp only; (try simp (discharger:=decide) only [eval_put_ne]); rw [Q0a (by simp only [size_put]; exact (by decide:53 < 116))]; exact q10) ?_
    subst hbb;intro K hK;go_simp;refine Q0d (J3g w1 _ t HE.out ⟨_,_,_,rfl,HD.out.ext (hdr.trans hx)⟩) ?_;rintro e w2 ⟨x,rfl,h,hx2⟩;exact ⟨_,rfl,hK _ _ hx2 h⟩
   case g13 =>
    intro v w1 hx (q10:v 10 = _);intro bb hbb;refine Flow.Q0p (d:=53) rfl rfl (by rw [hbb]; simp only [size_put]; exact (by decide:53 < 116)) (by rw [hbb]; dsimp only; (try simp (discharger:=decide) only [eval_put_ne]); rw [Q0a (by simp only [size_put]; exact (by decide:53 < 116))]; exact q10) ?_
    intro K2 hK2;have o1:bb.eval (.tmp 2) = .pointer (some ⟨gT,0,none⟩):=by rw [hbb]; dsimp only; (try simp (discharger:=decide) only [eval_put_ne]); rfl
    exact Q0n (.tmp 2) _ rfl Tryz.Q2s Tryz.Q0x o1 (K0.out.ext (hdr.trans hx)) rfl (hK2 _ _ (Ext.refl _) rfl)
   case g14 =>
    intro v w1 hx (q10:v 10 = _) (q12:IsTree w1 (v 12) t) (q13:v 13 = _);intro bb hbb;refine Flow.Q0p (d:=53) rfl rfl (by rw [hbb]; simp only [size_put]; exact (by decide:53 < 116)) (by rw [hbb]; dsimp only; (try simp (discharger:=decide) only [eval_put_ne]); rw [Q0a (by simp only [size_put]; exact (by decide:53 < 116))]; exact q10) ?_
    subst hbb;intro K hK;go_simp;refine Q0d (Y8w w1 _ _ t q12 ⟨_,_,_,rfl,HT.out.ext (hdr.trans hx)⟩) ?_;rintro e w2 ⟨rfl,hx2⟩;exact ⟨_,rfl,hK _ _ hx2 rfl⟩
   case g15 =>
    intro v w1 hx (q10:v 10 = _) (q14:v 14 = _);intro bb hbb;refine Flow.Q0p (d:=53) rfl rfl (by rw [hbb]; simp only [size_put]; exact (by decide:53 < 116)) (by rw [hbb]; dsimp only; (try simp (discharger:=decide) only [eval_put_ne]); rw [Q0a (by simp only [size_put]; exact (by decide:53 < 116))]; exact q10) ?_
    subst hbb;refine ⟨_,fun w=>?_,rfl⟩;go_simp
   case g16 =>
    intro v w1 hx (q10:v 10 = _) (q15:v 15 = _);intro bb hbb;subst hbb;refine ⟨_,fun w=>?_,rfl⟩;go_simp
   case g17 =>
    intro v w1 hx (q14:v 14 = _) (q16:v 16 = _);intro bb hbb;subst hbb;refine ⟨_,fun w=>?_,rfl⟩;go_simp
   case g18 =>
    intro v w1 hx (q17:v 17 = _);intro bb hbb;refine Flow.Q0p (d:=60) rfl rfl (by rw [hbb]; simp only [size_put]; exact (by decide:60 < 116)) (by rw [hbb]; dsimp only; (try simp (discharger:=decide) only [eval_put_ne]); rw [Q0a (by simp only [size_put]; exact (by decide:60 < 116))]; exact q17) ?_
    subst hbb;refine ⟨_,fun w=>?_,rfl⟩;go_simp
   case g19 =>
    intro v w1 hx (q17:v 17 = _) (q18:v 18 = _);intro bb hbb;refine Flow.Q0p (d:=60) rfl rfl (by rw [hbb]; simp only [size_put]; exact (by decide:60 < 116)) (by rw [hbb]; dsimp only; (try simp (discharger:=decide) only [eval_put_ne]); rw [Q0a (by simp only [size_put]; exact (by decide:60 < 116))]; exact q17) ?_
    subst hbb;intro K2 hK2;go_simp;refine Q0d (X7m w1 PS 10 (by have:=HPS1.out; rw [HPS.out] at this; omega)) ?_
    rintro e w2 ⟨u,rfl,hu,hx2⟩;obtain ⟨A9,c9,h9,_,_⟩:=Q5q hu;have h10:u = .slice A9 NP c9:=by rw [h9,HNP.out]
    exact ⟨_,rfl,hK2 _ _ hx2 ⟨A9,c9,h10⟩⟩
   case g20 =>
    intro v w1 hx (q17:v 17 = _) (q19:(fun v w'=>∃ A c,v 19 = .slice A NP c) v w1);intro bb hbb;refine Flow.Q0p (d:=60) rfl rfl (by rw [hbb]; simp only [size_put]; exact (by decide:60 < 116)) (by rw [hbb]; dsimp only; (try simp (discharger:=decide) only [eval_put_ne]); rw [Q0a (by simp only [size_put]; exact (by decide:60 < 116))]; exact q17) ?_
    obtain ⟨A9,c9,h9⟩:=q19;have fo0:bb.eval (.tmp 62) = .slice A9 NP c9:=by rw [hbb]; dsimp only; (try simp (discharger:=decide) only [eval_put_ne]); rw [Q0a (by simp only [size_put]; exact (by decide:62 < 116))]; exact h9
    exact ⟨_,fun w=>J2f _ _ rfl (by kernel_rfl) fo0 w,rfl⟩
   case g21 =>
    intro v w1 hx (q17:v 17 = _);intro bb hbb;refine Flow.Q0p (d:=60) rfl rfl (by rw [hbb]; simp only [size_put]; exact (by decide:60 < 116)) (by rw [hbb]; dsimp only; (try simp (discharger:=decide) only [eval_put_ne]); rw [Q0a (by simp only [size_put]; exact (by decide:60 < 116))]; exact q17) ?_
    intro K2 hK2;have o1:bb.eval (.tmp 2) = .pointer (some ⟨gT,0,none⟩):=by rw [hbb]; dsimp only; (try simp (discharger:=decide) only [eval_put_ne]); rfl
    exact Q0n (.tmp 2) _ rfl Tryz.Q2s Tryz.Q0x o1 (K0.out.ext (hdr.trans hx)) rfl (hK2 _ _ (Ext.refl _) rfl)
   case g22 =>
    intro v w1 hx (q17:v 17 = _) _ (q21:v 21 = _);intro bb hbb;refine Flow.Q0p (d:=60) rfl rfl (by rw [hbb]; simp only [size_put]; exact (by decide:60 < 116)) (by rw [hbb]; dsimp only; (try simp (discharger:=decide) only [eval_put_ne]); rw [Q0a (by simp only [size_put]; exact (by decide:60 < 116))]; exact q17) ?_
    subst hbb;intro K2 hK2;go_simp;refine Q0d (X9q w1 _ t ⟨_,_,_,rfl,HT.out.ext (hdr.trans hx)⟩) ?_;rintro e w2 ⟨rfl,hx2⟩;rw [HSE.out];exact ⟨_,rfl,hK2 _ _ hx2 rfl⟩
   case g23 =>
    intro v w1 hx (q17:v 17 = _);intro bb hbb;refine Flow.Q0p (d:=60) rfl rfl (by rw [hbb]; simp only [size_put]; exact (by decide:60 < 116)) (by rw [hbb]; dsimp only; (try simp (discharger:=decide) only [eval_put_ne]); rw [Q0a (by simp only [size_put]; exact (by decide:60 < 116))]; exact q17) ?_
    subst hbb;refine ⟨_,fun w=>?_,rfl⟩;go_simp
   case g24 =>
    intro v w1 hx (q17:v 17 = _) (q23:v 23 = _);intro bb hbb;have n0:w1.cell? ⟨gT,2,none⟩ = some (.slice G t.gates.length capg):=(K0.out.ext (hdr.trans hx)).cell 2;refine Flow.Q0p (d:=60) rfl rfl (by rw [hbb]; simp only [size_put]; exact (by decide:60 < 116)) (by rw [hbb]; dsimp only; (try simp (discharger:=decide) only [eval_put_ne]); rw [Q0a (by simp only [size_put]; exact (by decide:60 < 116))]; exact q17) ?_
    subst hbb;intro K hK;go_simp;exact hK _ _ (Ext.refl _) rfl
   case g25 =>
    intro v w1 hx (q17:v 17 = _) (q24:v 24 = _);intro bb hbb;refine Flow.Q0p (d:=60) rfl rfl (by rw [hbb]; simp only [size_put]; exact (by decide:60 < 116)) (by rw [hbb]; dsimp only; (try simp (discharger:=decide) only [eval_put_ne]); rw [Q0a (by simp only [size_put]; exact (by decide:60 < 116))]; exact q17) ?_
    subst hbb;refine ⟨_,fun w=>?_,rfl⟩;go_simp
   case g26 =>
    intro v w1 hx (q17:v 17 = _) (q22:v 22 = _) (q25:v 25 = _);intro bb hbb;refine Flow.Q0p (d:=60) rfl rfl (by rw [hbb]; simp only [size_put]; exact (by decide:60 < 116)) (by rw [hbb]; dsimp only; (try simp (discharger:=decide) only [eval_put_ne]); rw [Q0a (by simp only [size_put]; exact (by decide:60 < 116))]; exact q17) ?_
    subst hbb;refine ⟨_,fun w=>?_,rfl⟩;go_simp
   case g27 =>
    intro v w1 hx (q17:v 17 = _) (q26:v 26 = _);intro bb hbb;refine Flow.Q0p (d:=60) rfl rfl (by rw [hbb]; simp only [size_put]; exact (by decide:60 < 116)) (by rw [hbb]; dsimp only; (try simp (discharger:=decide) only [eval_put_ne]); rw [Q0a (by simp only [size_put]; exact (by decide:60 < 116))]; exact q17) ?_
    subst hbb;refine ⟨_,fun w=>?_,rfl⟩;go_simp
   case g28 =>
    intro v w1 hx (q17:v 17 = _) (q20:v 20 = _) (q27:v 27 = _);intro bb hbb;refine Flow.Q0p (d:=60) rfl rfl (by rw [hbb]; simp only [size_put]; exact (by decide:60 < 116)) (by rw [hbb]; dsimp only; (try simp (discharger:=decide) only [eval_put_ne]); rw [Q0a (by simp only [size_put]; exact (by decide:60 < 116))]; exact q17) ?_
    subst hbb;refine ⟨_,fun w=>?_,rfl⟩;go_simp
   case g29 =>
    intro v w1 hx (q17:v 17 = _) (q28:v 28 = _);intro bb hbb;subst hbb;refine ⟨_,fun w=>?_,rfl⟩;go_simp
   case post =>
    intro v w1 hx (q0:v 0 = _) (q1:v 1 = _) (q2:v 2 = _) (q3:v 3 = _) (q4:v 4 = _) (q5:v 5 = _) (q6:v 6 = _) (q7:v 7 = _) (q8:v 8 = _) (q9:v 9 = _) (q10:v 10 = _) (q11:v 11 = _) (q12:IsTree w1 (v 12) t) (q13:v 13 = _) (q14:v 14 = _) (q15:v 15 = _) (q16:v 16 = _) (q17:v 17 = _) (q18:v 18 = _) (q19:(fun v w'=>∃ A c,v 19 = .slice A NP c) v w1) (q20:v 20 = _) (q21:v 21 = _) (q22:v 22 = _) (q23:v 23 = _) (q24:v 24 = _) (q25:v 25 = _) (q26:v 26 = _) (q27:v 27 = _) (q28:v 28 = _) (q29:v 29 = _);simp only [Flow.All,Flow.acts,Act.put];go_simp;have hxx:=hdr.trans hx;replace HX:=Lib.hid (HX.out.trans hxx);replace HTAB:=Lib.hid (HTAB.out.ext hxx);replace HMX:=Lib.hid (HMX.out.ext hxx);replace K0:=Lib.hid (K0.out.ext hxx);replace HT:=Lib.hid (HT.out.ext hxx);replace HD:=Lib.hid (HD.out.ext hxx);replace K7:=Lib.hid (K7.out.ext hxx);clear hxx hx hdr q0 q1 q2 q3 q4 q5 q6 q7 q8 q9 q10 q11 q12 q13 q14 q15 q16 q17 q18 q19 q20 q21 q22 q23 q24 q25 q26 q27 q28 q29;obtain ⟨w7,rfl⟩:∃ X,X = w1:=⟨_,rfl⟩;clear v1 v2 v3;go_wp2_with fail;refine (HPP.out _ m HMX.out).mono ?_;rintro e w8 ⟨y,rfl,hy,hx⟩;have hxx:Ext w7 w8:=hx;replace HX:=Lib.hid (HX.out.trans hxx);replace HTAB:=Lib.hid (HTAB.out.ext hxx);replace HMX:=Lib.hid (HMX.out.ext hxx);replace K0:=Lib.hid (K0.out.ext hxx);replace HT:=Lib.hid (HT.out.ext hxx);replace HD:=Lib.hid (HD.out.ext hxx);replace K7:=Lib.hid (K7.out.ext hxx);have HD2:=Lib.hid (hy);clear hy;clear hx hxx;obtain ⟨y1,y2,y3,rfl,h3⟩:=HD2.out;obtain ⟨A6,capA6,rfl,_,_,_⟩:=h3.basics.opened;obtain ⟨B6,capB6,rfl,_,_,_⟩:=h3.causes.opened;obtain ⟨G6,capG6,rfl,_,_,_⟩:=h3.gates.opened;replace HD2:=Lib.hid h3;clear h3
    by_cases he:EP = 0
    · have hne:(EP == 0) = true:=by simp [he]
      have HBK:=Lib.hid (J1w (HPT.out.trans (by rw [he])))
      have hss:(s.toList == s.toList) = true:=by simp
      clear he;go_wp2_with fail;change Calls _ _ _ (w8.alloc (.cells #[.slice A6 DD.basics.length capA6,.slice B6 DD.causes.length capB6,.slice G6 DD.gates.length capG6] 33)) _;obtain ⟨W,hWW,k0,HXW,eW⟩:=Q3a w8 33 #[.slice A6 DD.basics.length capA6,.slice B6 DD.causes.length capB6,.slice G6 DD.gates.length capG6];rw [hWW];clear hWW;refine (X2n _ _ DD ⟨_,_,_,rfl,HD2.out.ext HXW.out⟩).mono ?_;rintro e w9 ⟨rfl,hx⟩;have hxx:Ext w8 w9:=HXW.out.trans hx;replace HX:=Lib.hid (HX.out.trans hxx);replace HTAB:=Lib.hid (HTAB.out.ext hxx);replace HMX:=Lib.hid (HMX.out.ext hxx);replace K0:=Lib.hid (K0.out.ext hxx);replace HT:=Lib.hid (HT.out.ext hxx);replace HD:=Lib.hid (HD.out.ext hxx);replace K7:=Lib.hid (K7.out.ext hxx);replace HD2:=Lib.hid (HD2.out.ext hxx);have K10:=Lib.hid (k0.ext hx);clear hx hxx HXW eW k0;rw [HBK.out.1,HBK.out.2];have v5:=V5.out;have v6:=V6.out;have hn1:(0:Int) ≤ (N:Int):=by omega
      go_wp2_with fail;refine (HP3.out _ m HMX.out).mono ?_;rintro e w10 ⟨z,rfl,hz,hx⟩;have hxx:Ext w9 w10:=hx;replace HX:=Lib.hid (HX.out.trans hxx);replace HTAB:=Lib.hid (HTAB.out.ext hxx);replace HMX:=Lib.hid (HMX.out.ext hxx);replace K0:=Lib.hid (K0.out.ext hxx);replace HT:=Lib.hid (HT.out.ext hxx);replace HD:=Lib.hid (HD.out.ext hxx);replace K7:=Lib.hid (K7.out.ext hxx);replace HD2:=Lib.hid (HD2.out.ext hxx);replace K10:=Lib.hid (K10.out.ext hxx);have HD3:=Lib.hid (hz);clear hz;clear hx hxx;clear v5 v6 hn1;obtain ⟨y1,y2,y3,rfl,h3⟩:=HD3.out;obtain ⟨A8,capA8,rfl,_,_,_⟩:=h3.basics.opened;obtain ⟨B8,capB8,rfl,_,_,_⟩:=h3.causes.opened;obtain ⟨G8,capG8,rfl,_,_,_⟩:=h3.gates.opened;replace HD3:=Lib.hid h3;clear h3;have HKN:=Lib.hid (Blk.made w10 33 #[.slice A8 noT.basics.length capA8,.slice B8 noT.causes.length capB8,.slice G8 noT.gates.length capG8]);have hxn:=Ext.box w10 (.cells #[.slice A8 noT.basics.length capA8,.slice B8 noT.causes.length capB8,.slice G8 noT.gates.length capG8] 33);go_upto_region 13 with fail;replace HX:=Lib.hid (HX.out.trans hxn);replace HTAB:=Lib.hid (HTAB.out.ext hxn);replace HMX:=Lib.hid (HMX.out.ext hxn);replace K0:=Lib.hid (K0.out.ext hxn);replace HT:=Lib.hid (HT.out.ext hxn);replace HD:=Lib.hid (HD.out.ext hxn);replace K7:=Lib.hid (K7.out.ext hxn);replace HD2:=Lib.hid (HD2.out.ext hxn);replace K10:=Lib.hid (K10.out.ext hxn);replace HD3:=Lib.hid (HD3.out.ext hxn);have K15:=Lib.hid (HKN.out);clear HKN hxn;obtain ⟨g15,hg15⟩:∃ g,w10.heap.size = g:=⟨_,rfl⟩;rw [hg15] at K15 ⊢;obtain ⟨w11,hww⟩:∃ X,w10.alloc (.cells #[.slice A8 noT.basics.length capA8,.slice B8 noT.causes.length capB8,.slice G8 noT.gates.length capG8] 33) = X:=⟨_,rfl⟩;rw [hww] at HX HTAB HMX K0 HT HD K7 HD2 K10 HD3 K15 ⊢;clear hww hg15;have hdr:=(Ext.refl w11).drew;have v1:=V1.out;have v4:=V4.out;have hqq:((Q:Int) == (Q:Int)) = true:=by simp
      refine Flow.Q2p [.plain,.plain,.plain,.plain,.world,.world,.plain,.world,.plain,.plain,.plain,.plain,.plain,.plain] [0,1,2,3,4,5,6,7,8,9,10,11,12,13] [[],[0],[1],[2],[2],[2,4],[2],[2,6],[2,7],[2,5,8],[2,9],[2,3,10],[2,11],[0,1,2,3,4,5,6,7,8,9,10,11,12]]
       [.is 0 (fun v=>.int .i64 26),.is 1 (fun v=>.bool true),.is 2 (fun v=>.bool true),.is 3 (fun v=>.int .i64 (Q:Int)),.is 4 (fun v=>.agg #[.slice A t.basics.length capa,.slice B t.causes.length capb,.slice G t.gates.length capg]),.is 5 (fun v=>.int .i64 (sz:Int)),.is 6 (fun v=>.pointer (some ⟨gT,2,none⟩)),.is 7 (fun v=>.slice G t.gates.length capg),.is 8 (fun v=>.int .i64 ((t.gates.length:Nat):Int)),.is 9 (fun v=>.int .i64 ((sz:Int) + (t.gates.length:Int))),.is 10 (fun v=>.int .i64 (Q:Int)),.is 11 (fun v=>.bool true),.is 12 (fun v=>.bool true),.is 13 (fun v=>.bool true)]
       (by kernel_rfl) rfl (by kernel_rfl) ⟨?g0,?g1,?g2,?g3,?g4,?g5,?g6,?g7,?g8,?g9,?g10,?g11,?g12,?g13,trivial⟩ ?post
      case g0 =>
       intro v w1 hx;intro bb hbb;subst hbb;refine ⟨_,fun w=>?_,rfl⟩;go_simp
      case g1 =>
       intro v w1 hx (q0:v 0 = _);intro bb hbb;subst hbb;refine ⟨_,fun w=>?_,rfl⟩;go_simp
      case g2 =>
       intro v w1 hx (q1:v 1 = _);intro bb hbb;subst hbb;refine ⟨_,fun w=>?_,rfl⟩;go_simp
      case g3 =>
       intro v w1 hx (q2:v 2 = _);intro bb hbb;refine Flow.Q0p (d:=105) rfl rfl (by rw [hbb]; simp only [size_put]; exact (by decide:105 < 116)) (by rw [hbb]; dsimp only; (try simp (discharger:=decide) only [eval_put_ne]); rw [Q0a (by simp only [size_put]; exact (by decide:105 < 116))]; exact q2) ?_
       subst hbb;refine ⟨_,fun w=>?_,rfl⟩;go_simp
      case g4 =>
       intro v w1 hx (q2:v 2 = _);intro bb hbb;refine Flow.Q0p (d:=105) rfl rfl (by rw [hbb]; simp only [size_put]; exact (by decide:105 < 116)) (by rw [hbb]; dsimp only; (try simp (discharger:=decide) only [eval_put_ne]); rw [Q0a (by simp only [size_put]; exact (by decide:105 < 116))]; exact q2) ?_
       intro K2 hK2;have o1:bb.eval (.tmp 2) = .pointer (some ⟨gT,0,none⟩):=by rw [hbb]; dsimp only; (try simp (discharger:=decide) only [eval_put_ne]); rfl
       exact Q0n (.tmp 2) _ rfl Tryz.Q2s Tryz.Q0x o1 (K0.out.ext (hdr.trans hx)) rfl (hK2 _ _ (Ext.refl _) rfl)
      case g5 =>
       intro v w1 hx (q2:v 2 = _) (q4:v 4 = _);intro bb hbb;refine Flow.Q0p (d:=105) rfl rfl (by rw [hbb]; simp only [size_put]; exact (by decide:105 < 116)) (by rw [hbb]; dsimp only; (try simp (discharger:=decide) only [eval_put_ne]); rw [Q0a (by simp only [size_put]; exact (by decide:105 < 116))]; exact q2) ?_
       subst hbb;intro K2 hK2;go_simp;refine Q0d (X9q w1 _ t ⟨_,_,_,rfl,HT.out.ext (hdr.trans hx)⟩) ?_;rintro e w2 ⟨rfl,hx2⟩;rw [HSE.out];exact ⟨_,rfl,hK2 _ _ hx2 rfl⟩
      case g6 =>
       intro v w1 hx (q2:v 2 = _);intro bb hbb;refine Flow.Q0p (d:=105) rfl rfl (by rw [hbb]; simp only [size_put]; exact (by decide:105 < 116)) (by rw [hbb]; dsimp only; (try simp (discharger:=decide) only [eval_put_ne]); rw [Q0a (by simp only [size_put]; exact (by decide:105 < 116))]; exact q2) ?_
       subst hbb;refine ⟨_,fun w=>?_,rfl⟩;go_simp
      case g7 =>
       intro v w1 hx (q2:v 2 = _) (q6:v 6 = _);intro bb hbb;have n0:w1.cell? ⟨gT,2,none⟩ = some (.slice G t.gates.length capg):=(K0.out.ext (hdr.trans hx)).cell 2;refine Flow.Q0p (d:=105) rfl rfl (by rw [hbb]; simp only [size_put]; exact (by decide:105 < 116)) (by rw [hbb]; dsimp only; (try simp (discharger:=decide) only [eval_put_ne]); rw [Q0a (by simp only [size_put]; exact (by decide:105 < 116))]; exact q2) ?_
       subst hbb;intro K hK;go_simp;exact hK _ _ (Ext.refl _) rfl
      case g8 =>
       intro v w1 hx (q2:v 2 = _) (q7:v 7 = _);intro bb hbb;refine Flow.Q0p (d:=105) rfl rfl (by rw [hbb]; simp only [size_put]; exact (by decide:105 < 116)) (by rw [hbb]; dsimp only; (try simp (discharger:=decide) only [eval_put_ne]); rw [Q0a (by simp only [size_put]; exact (by decide:105 < 116))]; exact q2) ?_
       subst hbb;refine ⟨_,fun w=>?_,rfl⟩;go_simp
      case g9 =>
       intro v w1 hx (q2:v 2 = _) (q5:v 5 = _) (q8:v 8 = _);intro bb hbb;refine Flow.Q0p (d:=105) rfl rfl (by rw [hbb]; simp only [size_put]; exact (by decide:105 < 116)) (by rw [hbb]; dsimp only; (try simp (discharger:=decide) only [eval_put_ne]); rw [Q0a (by simp only [size_put]; exact (by decide:105 < 116))]; exact q2) ?_
       subst hbb;refine ⟨_,fun w=>?_,rfl⟩;go_simp
      case g10 =>
       intro v w1 hx (q2:v 2 = _) (q9:v 9 = _);intro bb hbb;refine Flow.Q0p (d:=105) rfl rfl (by rw [hbb]; simp only [size_put]; exact (by decide:105 < 116)) (by rw [hbb]; dsimp only; (try simp (discharger:=decide) only [eval_put_ne]); rw [Q0a (by simp only [size_put]; exact (by decide:105 < 116))]; exact q2) ?_
       subst hbb;refine ⟨_,fun w=>?_,rfl⟩;go_simp
      case g11 =>
       intro v w1 hx (q2:v 2 = _) (q3:v 3 = _) (q10:v 10 = _);intro bb hbb;refine Flow.Q0p (d:=105) rfl rfl (by rw [hbb]; simp only [size_put]; exact (by decide:105 < 116)) (by rw [hbb]; dsimp only; (try simp (discharger:=decide) only [eval_put_ne]); rw [Q0a (by simp only [size_put]; exact (by decide:105 < 116))]; exact q2) ?_
       subst hbb;refine ⟨_,fun w=>?_,rfl⟩;go_simp
      case g12 =>
       intro v w1 hx (q2:v 2 = _) (q11:v 11 = _);intro bb hbb;subst hbb;refine ⟨_,fun w=>?_,rfl⟩;go_simp
      case g13 =>
       intro v w1 hx (q0:v 0 = _) (q1:v 1 = _) (q2:v 2 = _) (q3:v 3 = _) (q4:v 4 = _) (q5:v 5 = _) (q6:v 6 = _) (q7:v 7 = _) (q8:v 8 = _) (q9:v 9 = _) (q10:v 10 = _) (q11:v 11 = _) (q12:v 12 = _);intro bb hbb;subst hbb;refine ⟨_,fun w=>?_,rfl⟩;go_simp
      case post =>
       intro v w1 hx (q0:v 0 = _) (q1:v 1 = _) (q2:v 2 = _) (q3:v 3 = _) (q4:v 4 = _) (q5:v 5 = _) (q6:v 6 = _) (q7:v 7 = _) (q8:v 8 = _) (q9:v 9 = _) (q10:v 10 = _) (q11:v 11 = _) (q12:v 12 = _) (q13:v 13 = _);simp only [Flow.All,Flow.acts,Act.put];go_simp;have hxx:=hdr.trans hx;replace HX:=Lib.hid (HX.out.trans hxx);replace HTAB:=Lib.hid (HTAB.out.ext hxx);replace HMX:=Lib.hid (HMX.out.ext hxx);replace K0:=Lib.hid (K0.out.ext hxx);replace HT:=Lib.hid (HT.out.ext hxx);replace HD:=Lib.hid (HD.out.ext hxx);replace K7:=Lib.hid (K7.out.ext hxx);replace HD2:=Lib.hid (HD2.out.ext hxx);replace K10:=Lib.hid (K10.out.ext hxx);replace HD3:=Lib.hid (HD3.out.ext hxx);replace K15:=Lib.hid (K15.out.ext hxx);clear hxx hx hdr q0 q1 q2 q3 q4 q5 q6 q7 q8 q9 q10 q11 q12 q13;obtain ⟨w12,rfl⟩:∃ X,X = w1:=⟨_,rfl⟩;go_wp2;go_ret;exact ⟨rfl,HW0.out.trans HX.out⟩
    · have hne:(EP == 0) = false:=by simp [he]
      clear he;have v5:=V5.out;have v6:=V6.out;have hn1:(0:Int) ≤ (N:Int):=by omega
      go_wp2_with fail;change Calls _ _ _ (w8.alloc (.cells #[.slice A6 DD.basics.length capA6,.slice B6 DD.causes.length capB6,.slice G6 DD.gates.length capG6] 33)) _;obtain ⟨W,hWW,k0,HXW,eW⟩:=Q3a w8 33 #[.slice A6 DD.basics.length capA6,.slice B6 DD.causes.length capB6,.slice G6 DD.gates.length capG6];rw [hWW];clear hWW;refine (HP3.out _ m (HMX.out.ext HXW.out)).mono ?_;rintro e w9 ⟨z,rfl,hz,hx⟩;have hxx:Ext w8 w9:=HXW.out.trans hx;replace HX:=Lib.hid (HX.out.trans hxx);replace HTAB:=Lib.hid (HTAB.out.ext hxx);replace HMX:=Lib.hid (HMX.out.ext hxx);replace K0:=Lib.hid (K0.out.ext hxx);replace HT:=Lib.hid (HT.out.ext hxx);replace HD:=Lib.hid (HD.out.ext hxx);replace K7:=Lib.hid (K7.out.ext hxx);replace HD2:=Lib.hid (HD2.out.ext hxx);have HD3:=Lib.hid (hz);have K10:=Lib.hid (k0.ext hx);clear hz;clear hx hxx HXW eW k0;clear v5 v6 hn1;obtain ⟨y1,y2,y3,rfl,h3⟩:=HD3.out;obtain ⟨A8,capA8,rfl,_,_,_⟩:=h3.basics.opened;obtain ⟨B8,capB8,rfl,_,_,_⟩:=h3.causes.opened;obtain ⟨G8,capG8,rfl,_,_,_⟩:=h3.gates.opened;replace HD3:=Lib.hid h3;clear h3;have HKN:=Lib.hid (Blk.made w9 33 #[.slice A8 noT.basics.length capA8,.slice B8 noT.causes.length capB8,.slice G8 noT.gates.length capG8]);have hxn:=Ext.box w9 (.cells #[.slice A8 noT.basics.length capA8,.slice B8 noT.causes.length capB8,.slice G8 noT.gates.length capG8] 33);go_upto_region 13 with fail;replace HX:=Lib.hid (HX.out.trans hxn);replace HTAB:=Lib.hid (HTAB.out.ext hxn);replace HMX:=Lib.hid (HMX.out.ext hxn);replace K0:=Lib.hid (K0.out.ext hxn);replace HT:=Lib.hid (HT.out.ext hxn);replace HD:=Lib.hid (HD.out.ext hxn);replace K7:=Lib.hid (K7.out.ext hxn);replace HD2:=Lib.hid (HD2.out.ext hxn);replace HD3:=Lib.hid (HD3.out.ext hxn);replace K10:=Lib.hid (K10.out.ext hxn);have K15:=Lib.hid (HKN.out);clear HKN hxn;obtain ⟨g15,hg15⟩:∃ g,w9.heap.size = g:=⟨_,rfl⟩;rw [hg15] at K15 ⊢;obtain ⟨w10,hww⟩:∃ X,w9.alloc (.cells #[.slice A8 noT.basics.length capA8,.slice B8 noT.causes.length capB8,.slice G8 noT.gates.length capG8] 33) = X:=⟨_,rfl⟩;rw [hww] at HX HTAB HMX K0 HT HD K7 HD2 HD3 K10 K15 ⊢;clear hww hg15;have hdr:=(Ext.refl w10).drew;have v1:=V1.out;have v4:=V4.out;have hqq:((Q:Int) == (Q:Int)) = true:=by simp
      refine Flow.Q2p [.plain,.plain,.plain,.plain,.world,.world,.plain,.world,.plain,.plain,.plain,.plain,.plain,.plain] [0,1,2,3,4,5,6,7,8,9,10,11,12,13] [[],[0],[1],[2],[2],[2,4],[2],[2,6],[2,7],[2,5,8],[2,9],[2,3,10],[2,11],[0,1,2,3,4,5,6,7,8,9,10,11,12]]
       [.is 0 (fun v=>.int .i64 26),.is 1 (fun v=>.bool true),.is 2 (fun v=>.bool true),.is 3 (fun v=>.int .i64 (Q:Int)),.is 4 (fun v=>.agg #[.slice A t.basics.length capa,.slice B t.causes.length capb,.slice G t.gates.length capg]),.is 5 (fun v=>.int .i64 (sz:Int)),.is 6 (fun v=>.pointer (some ⟨gT,2,none⟩)),.is 7 (fun v=>.slice G t.gates.length capg),.is 8 (fun v=>.int .i64 ((t.gates.length:Nat):Int)),.is 9 (fun v=>.int .i64 ((sz:Int) + (t.gates.length:Int))),.is 10 (fun v=>.int .i64 (Q:Int)),.is 11 (fun v=>.bool true),.is 12 (fun v=>.bool true),.is 13 (fun v=>.bool true)]
       (by kernel_rfl) rfl (by kernel_rfl) ⟨?g0,?g1,?g2,?g3,?g4,?g5,?g6,?g7,?g8,?g9,?g10,?g11,?g12,?g13,trivial⟩ ?post
      case g0 =>
       intro v w1 hx;intro bb hbb;subst hbb;refine ⟨_,fun w=>?_,rfl⟩;go_simp
      case g1 =>
       intro v w1 hx (q0:v 0 = _);intro bb hbb;subst hbb;refine ⟨_,fun w=>?_,rfl⟩;go_simp
      case g2 =>
       intro v w1 hx (q1:v 1 = _);intro bb hbb;subst hbb;refine ⟨_,fun w=>?_,rfl⟩;go_simp
      case g3 =>
       intro v w1 hx (q2:v 2 = _);intro bb hbb;refine Flow.Q0p (d:=105) rfl rfl (by rw [hbb]; simp only [size_put]; exact (by decide:105 < 116)) (by rw [hbb]; dsimp only; (try simp (discharger:=decide) only [eval_put_ne]); rw [Q0a (by simp only [size_put]; exact (by decide:105 < 116))]; exact q2) ?_
       subst hbb;refine ⟨_,fun w=>?_,rfl⟩;go_simp
      case g4 =>
       intro v w1 hx (q2:v 2 = _);intro bb hbb;refine Flow.Q0p (d:=105) rfl rfl (by rw [hbb]; simp only [size_put]; exact (by decide:105 < 116)) (by rw [hbb]; dsimp only; (try simp (discharger:=decide) only [eval_put_ne]); rw [Q0a (by simp only [size_put]; exact (by decide:105 < 116))]; exact q2) ?_
       intro K2 hK2;have o1:bb.eval (.tmp 2) = .pointer (some ⟨gT,0,none⟩):=by rw [hbb]; dsimp only; (try simp (discharger:=decide) only [eval_put_ne]); rfl
       exact Q0n (.tmp 2) _ rfl Tryz.Q2s Tryz.Q0x o1 (K0.out.ext (hdr.trans hx)) rfl (hK2 _ _ (Ext.refl _) rfl)
      case g5 =>
       intro v w1 hx (q2:v 2 = _) (q4:v 4 = _);intro bb hbb;refine Flow.Q0p (d:=105) rfl rfl (by rw [hbb]; simp only [size_put]; exact (by decide:105 < 116)) (by rw [hbb]; dsimp only; (try simp (discharger:=decide) only [eval_put_ne]); rw [Q0a (by simp only [size_put]; exact (by decide:105 < 116))]; exact q2) ?_
       subst hbb;intro K2 hK2;go_simp;refine Q0d (X9q w1 _ t ⟨_,_,_,rfl,HT.out.ext (hdr.trans hx)⟩) ?_;rintro e w2 ⟨rfl,hx2⟩;rw [HSE.out];exact ⟨_,rfl,hK2 _ _ hx2 rfl⟩
      case g6 =>
       intro v w1 hx (q2:v 2 = _);intro bb hbb;refine Flow.Q0p (d:=105) rfl rfl (by rw [hbb]; simp only [size_put]; exact (by decide:105 < 116)) (by rw [hbb]; dsimp only; (try simp (discharger:=decide) only [eval_put_ne]); rw [Q0a (by simp only [size_put]; exact (by decide:105 < 116))]; exact q2) ?_
       subst hbb;refine ⟨_,fun w=>?_,rfl⟩;go_simp
      case g7 =>
       intro v w1 hx (q2:v 2 = _) (q6:v 6 = _);intro bb hbb;have n0:w1.cell? ⟨gT,2,none⟩ = some (.slice G t.gates.length capg):=(K0.out.ext (hdr.trans hx)).cell 2;refine Flow.Q0p (d:=105) rfl rfl (by rw [hbb]; simp only [size_put]; exact (by decide:105 < 116)) (by rw [hbb]; dsimp only; (try simp (discharger:=decide) only [eval_put_ne]); rw [Q0a (by simp only [size_put]; exact (by decide:105 < 116))]; exact q2) ?_
       subst hbb;intro K hK;go_simp;exact hK _ _ (Ext.refl _) rfl
      case g8 =>
       intro v w1 hx (q2:v 2 = _) (q7:v 7 = _);intro bb hbb;refine Flow.Q0p (d:=105) rfl rfl (by rw [hbb]; simp only [size_put]; exact (by decide:105 < 116)) (by rw [hbb]; dsimp only; (try simp (discharger:=decide) only [eval_put_ne]); rw [Q0a (by simp only [size_put]; exact (by decide:105 < 116))]; exact q2) ?_
       subst hbb;refine ⟨_,fun w=>?_,rfl⟩;go_simp
      case g9 =>
       intro v w1 hx (q2:v 2 = _) (q5:v 5 = _) (q8:v 8 = _);intro bb hbb;refine Flow.Q0p (d:=105) rfl rfl (by rw [hbb]; simp only [size_put]; exact (by decide:105 < 116)) (by rw [hbb]; dsimp only; (try simp (discharger:=decide) only [eval_put_ne]); rw [Q0a (by simp only [size_put]; exact (by decide:105 < 116))]; exact q2) ?_
       subst hbb;refine ⟨_,fun w=>?_,rfl⟩;go_simp
      case g10 =>
       intro v w1 hx (q2:v 2 = _) (q9:v 9 = _);intro bb hbb;refine Flow.Q0p (d:=105) rfl rfl (by rw [hbb]; simp only [size_put]; exact (by decide:105 < 116)) (by rw [hbb]; dsimp only; (try simp (discharger:=decide) only [eval_put_ne]); rw [Q0a (by simp only [size_put]; exact (by decide:105 < 116))]; exact q2) ?_
       subst hbb;refine ⟨_,fun w=>?_,rfl⟩;go_simp
      case g11 =>
       intro v w1 hx (q2:v 2 = _) (q3:v 3 = _) (q10:v 10 = _);intro bb hbb;refine Flow.Q0p (d:=105) rfl rfl (by rw [hbb]; simp only [size_put]; exact (by decide:105 < 116)) (by rw [hbb]; dsimp only; (try simp (discharger:=decide) only [eval_put_ne]); rw [Q0a (by simp only [size_put]; exact (by decide:105 < 116))]; exact q2) ?_
       subst hbb;refine ⟨_,fun w=>?_,rfl⟩;go_simp
      case g12 =>
       intro v w1 hx (q2:v 2 = _) (q11:v 11 = _);intro bb hbb;subst hbb;refine ⟨_,fun w=>?_,rfl⟩;go_simp
      case g13 =>
       intro v w1 hx (q0:v 0 = _) (q1:v 1 = _) (q2:v 2 = _) (q3:v 3 = _) (q4:v 4 = _) (q5:v 5 = _) (q6:v 6 = _) (q7:v 7 = _) (q8:v 8 = _) (q9:v 9 = _) (q10:v 10 = _) (q11:v 11 = _) (q12:v 12 = _);intro bb hbb;subst hbb;refine ⟨_,fun w=>?_,rfl⟩;go_simp
      case post =>
       intro v w1 hx (q0:v 0 = _) (q1:v 1 = _) (q2:v 2 = _) (q3:v 3 = _) (q4:v 4 = _) (q5:v 5 = _) (q6:v 6 = _) (q7:v 7 = _) (q8:v 8 = _) (q9:v 9 = _) (q10:v 10 = _) (q11:v 11 = _) (q12:v 12 = _) (q13:v 13 = _);simp only [Flow.All,Flow.acts,Act.put];go_simp;have hxx:=hdr.trans hx;replace HX:=Lib.hid (HX.out.trans hxx);replace HTAB:=Lib.hid (HTAB.out.ext hxx);replace HMX:=Lib.hid (HMX.out.ext hxx);replace K0:=Lib.hid (K0.out.ext hxx);replace HT:=Lib.hid (HT.out.ext hxx);replace HD:=Lib.hid (HD.out.ext hxx);replace K7:=Lib.hid (K7.out.ext hxx);replace HD2:=Lib.hid (HD2.out.ext hxx);replace HD3:=Lib.hid (HD3.out.ext hxx);replace K10:=Lib.hid (K10.out.ext hxx);replace K15:=Lib.hid (K15.out.ext hxx);clear hxx hx hdr q0 q1 q2 q3 q4 q5 q6 q7 q8 q9 q10 q11 q12 q13;obtain ⟨w11,rfl⟩:∃ X,X = w1:=⟨_,rfl⟩;go_wp2;go_ret;exact ⟨rfl,HW0.out.trans HX.out⟩
end Go.Proofs
namespace Go.Proofs.YtgopmebjbkdfgaaGreatDoor
open Go.ChangeShapes Go.WideShapes Go.ChangeAt Go.RowKit Go.Tw
set_option maxRecDepth 100000 in
theorem J0w (os:Os) (started:os.Started) (H:Type) (enc:TypeId × Value → H) :
    ReturnsInHanded {} Tryz.checked os 6 .any (fun w args=>(Rows.faultBackSpec.pre enc Tryz.prog Tryz.f6 Rows.faultBackRow.domain false w args ∧ laidMetH Tryz.prog Y6v w) ∧ sizedMet enc Tryz.prog Tryz.f6 (OpenSpec.ofChange Rows.faultBackSpec) false w args)
     (Rows.faultBackSpec.post enc Tryz.prog Tryz.f6 false true false false):=by
 refine Z6z (C:=Tryz.checked) (X:=fun w _=>laidMetH Tryz.prog Y6v w) (fun _ _ _ hh h=>h.of_heap hh) own started (by kernel_rfl) Tryz.func6
  (ChangeSpec.witness_shaped (enc:=enc) (C:=Tryz.checked) (os:=os) (X:=fun w _=>laidMetH Tryz.prog Y6v w) false (World.laidAll Tryz.prog os Y6v) #[.agg #[.slice none 0 0,.slice none 0 0,.slice none 0 0],.string ⟨#[]⟩] 8 (World.laidAll_os _ _ _)
   (World.shaped_of_ZipB (by kernel_rfl) (by kernel_rfl)) (by kernel_rfl) (by kernel_rfl) (by kernel_rfl)
   (by rw [MakeChecks.laidMetH_plain _ _ _ (by kernel_rfl)]; exact laidMet_laidAll _ (by kernel_rfl) (by kernel_rfl))) ?_
 intro W base args ds gs before hval0 hW hc hsz0 hL hSh _;obtain ⟨mx,hmx⟩:=Y0j hSh;have hval:∀ (j:Nat) t v,Tryz.f6.params[j]? = some t → args[j]? = some v → Value.okWide Tryz.prog W .any base t v:=hval0;have hsz:(DataW.weightsEach Tryz.prog (Tryz.f6.params.toList ++ Rows.faultBackSpec.plain.varTypes Tryz.prog) (ds ++ gs)).all (· ≤ reachBytes) = true:=hsz0;have hW':=hW;obtain ⟨p,q,hA0,hV,rfl,hfz,hnd⟩:=hW;have hA:DataW.TrodAll enc Tryz.prog W 0 (fun _=>true) true Tryz.f6.params.toList args.toList ds p:=hA0;rw [Tryz.params6] at hA hval hsz;obtain ⟨v0,vs0,d0,ds0,p0,q0,hargs,rfl,rfl,h0,r0⟩:=trodAll_cons hA;obtain ⟨v1,vs1,d1,ds1,p1,q1,rfl,rfl,rfl,h1,r1⟩:=trodAll_cons r0;obtain ⟨rfl,rfl,rfl⟩:=trodAll_nil r1;obtain rfl:args = #[v0,v1]:=by cases args; simp_all
 obtain ⟨rfl,rfl⟩:=trodVars_none hV;have hfit:∀ x ∈ DataW.weightsEach Tryz.prog [26,9] [d0,d1],x ≤ 140737488351232:=fun x hx=>by
  have:=List.all_eq_true.1 (show (DataW.weightsEach Tryz.prog [26,9] [d0,d1]).all (· ≤ reachBytes) = true from hsz) x hx
  exact Nat.le_trans (of_decide_eq_true this) (by decide)
 obtain ⟨f0,g0⟩:=Q3t hfit;obtain ⟨f1,g1⟩:=Q3t g0;have k0:=h0;have lt0:∀ x ∈ p0,x.block < W.heap.size:=by obtain ⟨m,hm⟩:=k0; exact DataW.trod_lt m _ _ _ hm
 obtain ⟨t0,HI0⟩:=Y0w (hval 0 26 v0 rfl rfl) h0 f0;have k1:=h1;have lt1:∀ x ∈ p1,x.block < W.heap.size:=by obtain ⟨m,hm⟩:=k1; exact DataW.trod_lt m _ _ _ hm
 obtain ⟨s1,rfl⟩:=okWide_string Tryz.underlying9 (hval 1 9 v1 rfl rfl);clear hA0 hval0 hsz0;refine (J1l _ _ _ _ mx HI0 (Y4n hL) hmx).mono fun e W' ⟨he,bel⟩=>?_;subst he;exact ⟨_,rfl,_,_,_,[],_,[],hW',trodAll_mk1 (shut_bool Tryz.underlying4 _),(trodAll_cons_mk (Below.trod laidOut (by kernel_rfl) (of_decide_eq_true (by kernel_rfl)) k0 bel lt0) (trodAll_cons_mk (Below.trod laidOut (by kernel_rfl) (of_decide_eq_true (by kernel_rfl)) k1 bel lt1) trodAll_mk0)),rfl,bel.frame _,fun h=>by cases h⟩
theorem J1b:Rows.FaultBackSaid :=
 OpenClaim.holds_of_wide 6 Tryz.f6 rfl rfl rfl rfl rfl rfl rfl ⟨rfl,rfl,rfl,rfl,rfl⟩ rfl rfl rfl rfl rfl (by kernel_rfl) Tryz.func6 (by kernel_rfl)
  (of_decide_eq_true (by kernel_rfl)) (by unfold Func.isWrapper; first | (rw [if_pos (by decide +kernel)]; kernel_rfl) | (rw [if_neg (by decide +kernel)]; exact ⟨rfl,rfl⟩))
  (fun os started H enc _=>J0w os started H enc)
theorem faultBack_card:Rows.FaultBackCardSaid :=
 Claim7.holds_tied_plain_at .later [] [.data,.data,.data,.data,.pinned] true _ false J1b (fun _ h=>by cases h) (by kernel_rfl) (fun _ h=>by cases h) faultBack_row_tie rfl ⟨rfl,rfl⟩ (by kernel_rfl) rfl
  (fun f fn hf hfn=>by
   obtain rfl:f = 6:=Option.some.inj ((show Tryz.prog.funcNamed Rows.faultBackRow.func = some 6 by kernel_rfl).symm.trans hf) |>.symm
   obtain rfl:fn = Tryz.f6:=(Option.some.inj (Tryz.func6.symm.trans hfn)).symm;exact ⟨by kernel_rfl,fun j t ht=>by
    rw [Tryz.params6] at ht;have hm:t ∈ [26,9]:=by simpa using Array.mem_of_getElem? ht
    have hall:([26,9].all fun u=>!Tryz.prog.wantsStandIn u) = true:=by kernel_rfl
    exact (show Tryz.prog.wantsStandIn t = false by simpa using List.all_eq_true.1 hall t hm)⟩)
  (by kernel_rfl)
#print axioms faultBack_card
end Go.Proofs.YtgopmebjbkdfgaaGreatDoor
