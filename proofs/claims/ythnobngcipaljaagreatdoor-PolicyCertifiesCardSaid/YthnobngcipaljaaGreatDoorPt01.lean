/- DERIVED: THE SHELF's CONTRACTS AT THIS DUMP, IN PLAIN WORDS (tools/lay-plain.mjs out of 'TryzShelf.lean', which tools/lay-shelf.mjs wrote): THE SAME DECLARATIONS UNDER THE SAME NAMES: 'import', 'namespace', 'open', 'def', 'theorem' AND NOTHING ELSE: no command of the shelf's: FOR A HAND-IN. Each laying: the table of numbers ('.._ren') and one theorem, a field a fact of the dump's own or the kernel's comparison; each contract: ONE APPLICATION. Small aids for the uses of the region theorem and for boxes. Contracts of small functions of the references. What the functions of chapter 5 come to, in plain lists and numbers: no program is in sight here. Contracts of the reference: before, count, dry. The last operations of a region: the frame under a name, its slots looked up one by one (to reckon the frame out runs away). Contracts of the reference: CheckNeed, OnlyMembers. Plain law: the greatest weight and the best cost over the plans are those over all policies by their codes. Plain law: what PolicyBest says of the greatest weight, the best cost and the groups. Contract of the reference: Play. A whole load of a block inside a drawn region. Certificates and refusals: what is accepted and what is not; plain lists, no program is in sight. A list of lists that a call makes and appends to. Turning a rule of a policy changes what is done after its history alone: plain lists, no program is in sight. Blocks of structs: their cells by a function of the place; stores, copies and clears of parts of a block. Contracts: weight, checkMember, checkMembers (of the program). Contracts: slices.Equal; checkRules, CheckPolicy. Contracts: slices.Index and Contains over integers. -/
import Derived.Test.YthnobngcipaljaaGreatDoorPp35
set_option maxRecDepth 1000000
set_option maxHeartbeats 64000000
set_option linter.unusedVariables false
set_option linter.unusedSimpArgs false
set_option linter.constructorNameAsVariable false
open Go.Lib (hid)
namespace Go.Proofs
open Go.Shelf
open Go.Lib in
def Tryz.J5p:Go.Shelf.Ren:=⟨fun | 15=>174 | n=>n,fun | 22=>22 | 3=>3 | 4=>4 | n=>n,fun | n=>n⟩
theorem Tryz.laysNm215:Go.Proofs.Lays2.n15 Tryz.prog Tryz.J5p:={
 mixed:=by kernel_rfl
 f15:=Tryz.func174.trans (congrArg some (by kernel_rfl))
 t3:=Tryz.underlying3
 a3:=Tryz.isAgg3
 z3:=Tryz.sizeOf3
 v3:=Tryz.zeroValue3
 t4:=Tryz.underlying4
 a4:=Tryz.isAgg4
 z4:=Tryz.sizeOf4
 v4:=Tryz.zeroValue4
 t22:=Tryz.underlying22
 a22:=Tryz.isAgg22
 z22:=Tryz.sizeOf22
 v22:=Tryz.zeroValue22
 i3:=by kernel_rfl }
open Go.RowKit Go.Lib in
theorem Tryz.slices_Clone_int (b off n c:Nat) (zs:List Int) (w:World) (hz:n <= zs.length) (hbig:n * 8 <= 140737488355328) (hc:∀ j,j < zs.length -> w.cell? ⟨b,off + j,none⟩=some (.int .i64 (zs.getD j 0))) :
    Calls Tryz.prog 174 #[.slice (some ⟨b,off,none⟩) n c] w fun e w'=>∃ v',e=.returned v' /\ w'.ownsRow w.heap.size 3 1 v' n ((zs.take n).map (Value.int .i64)) /\ v' ≠ .slice none 0 0 /\ Below w.heap.size w w':=Any.slices_Clone_int Tryz.laysNm215 b off n c zs w hz hbig hc
open Go.RowKit Go.Lib in
theorem Tryz.slices_Clone_int_nil (n c:Nat) (w:World) :
    Calls Tryz.prog 174 #[.slice none n c] w fun e w'=>e=.returned (.slice none 0 0) /\ w'=w:=Any.slices_Clone_int_nil Tryz.laysNm215 n c w
open Go.RowKit Go.Lib in
theorem Tryz.slices_Clone_int_zero (a:Addr) (c:Nat) (w:World) :
    Calls Tryz.prog 174 #[.slice (some a) 0 c] w fun e w'=>∃ v',e=.returned v' /\ w'.ownsRow w.heap.size 3 1 v' 0 [] /\ v' ≠ .slice none 0 0 /\ Below w.heap.size w w':=Any.slices_Clone_int_zero Tryz.laysNm215 a c w
end Go.Proofs
namespace Go.Tw
open Go.RowKit Go.Flow
theorem J2q {α:Type} {P:Program} {K:Value -> World -> Prop} {o:Oper} {a:Act} {w:World} (s x:Operand) (t:TypeId) (ho:o.op=.call { callee:=.builtin .append,args:=#[s,x],argTypes:=#[t,t] })
    (base:Nat) (e:TypeId) (i:TypeInfo) (z:Value) (bytes:Nat) (ht:P.underlying t=some (.slice e)) (hi:P.info? e=some i) (hz:i.zero=some z) (hsize:i.size=1) (hby:i.bytes=bytes) (hzs:z.cells.size=1)
    (enc:α -> Value) (v src:Value) (ys:List α) (hs:a.eval s=v) (hv:∃ g,v=.slice (some ⟨g,0,none⟩) 0 0 /\ base <= g /\ w.heap[g]?=some (.cells #[] e (0,0))) (hx:a.eval x=src) (hsrc:Src w enc src ys) (h1:∀ y ∈ ys,(enc y).oneCell'=true)
    (h63:ys.length <= 4398046511104) (hb:bytes <= 32) (hbase:base <= w.heap.size)
    (h:∀ v' w',Q0q w' base e enc v' ys -> Ext w w' -> K v' w'):gives P K ((execOp a.eval o).run P w):=by
 obtain ⟨g,rfl,hbg,hg⟩:=hv;have hown:Q0q w base e enc (.slice (some ⟨g,0,none⟩) 0 0) ([]:List α):=⟨by simp,.inr ⟨g,0,#[],rfl,hbg,hg,Nat.le_refl _,Nat.zero_le _,rfl,by simp⟩⟩
 obtain ⟨A,c,rfl,hc⟩:=hsrc;cases ys with
 | nil =>
   unfold execOp;simp only [ho,resolve,invoke,builtin,Sem.run_bind,Sem.run_pure,Result.andThen_ok,List.map_toArray,List.map_cons,List.map_nil,hs,hx];rw [List.length_nil,Q7q (P:=P) w t o.type e i ht hi _ A 0 0 c (Nat.le_refl _)];exact h _ _ hown (Ext.refl _)
 | cons y ys =>
   obtain ⟨b0,off0,rfl,_⟩:=hc 0 (by simp)
   have hnews:∀ j u,((y :: ys).map enc)[j]?=some u -> w.cell? ((⟨b0,off0,none⟩:Addr).add j)=some u:=fun j u hu=>by
    rw [List.getElem?_map] at hu
    rcases Nat.lt_or_ge j (y :: ys).length with hj | hj
    . rw [List.getElem?_eq_getElem hj] at hu
      simp only [Option.map_some,Option.some.injEq] at hu;obtain ⟨b',off',hA,hcell⟩:=hc j hj;cases hA;rw [<- hu,addr_add]; exact hcell
    . rw [List.getElem?_eq_none hj] at hu; cases hu
   have hbytes:(y :: ys).length * bytes <= 140737488355328:=by
    have:(y :: ys).length * bytes <= 4398046511104 * 32:=Nat.mul_le_mul h63 hb;omega
   obtain ⟨v',w',hr,h2,h3,h4⟩:=run_append_own (P:=P) w base t o.type e i z 1 bytes ht hi hz hsize hby hzs (by decide) _ 0 (([]:List α).map enc) hown ⟨b0,off0,none⟩ (y :: ys).length c ((y :: ys).map enc) (by simp) hnews (fun u hu=>by obtain ⟨y,hy,rfl⟩:=List.mem_map.1 hu; exact h1 y hy) (by unfold maxLen; omega) (by rw [Nat.zero_add]; exact hbytes) hbase
   have hgr:=run_append_grow (P:=P) w t o.type e i z ht hi hz ⟨g,0,none⟩ 0 0 [] (by simp) (by simp) ⟨b0,off0,none⟩ (y :: ys).length c ((y :: ys).map enc) (by rw [hsize]; simp) hnews (by simp) (by simp only [List.length_cons] at h63 ⊢; omega) (by rw [hby]; exact growslice_fits (by simp) (by rw [Nat.zero_add]; exact hbytes))
   rw [hr] at hgr;injection hgr with hv' hw';unfold execOp;simp only [ho,resolve,invoke,builtin,Sem.run_bind,Sem.run_pure,Result.andThen_ok,List.map_toArray,List.map_cons,List.map_nil,hs,hx,hr];refine h v' w' ?_ (by rw [hw']; exact ((Ext.refl w).drew).alloc _)
   unfold Q0q
   simpa using h2
end Go.Tw
namespace Go.Proofs
open Go.RowKit Go.Tw
theorem J7i (w:World) (v:Value) (l:List Int) (x:Int) (hv:Q0d w v l) :
    Calls Tryz.prog 40 #[v,.int .i64 x] w fun e w'=>e=.returned (.bool (has l x)) /\ w=w':=by
 obtain ⟨A,cap,rfl,hl,hcap,hc⟩:=hv.opened;clear hv;go_enter Tryz.func40,Tryz.ntmps40;go_wp2
 go_loop [5] (fun i=>∃ k:Nat,k <= l.length /\ i=.int .i64 k /\ has (l.drop k) x=has l x) (fun i=>l.length - (intOf i).toNat)
 case atStart=>exact ⟨0,Nat.zero_le _,rfl,rfl⟩
 case round =>
  obtain ⟨k,hk,rfl,hr⟩:=hrel;have HR:=hid hr; clear hr
  by_cases hlt:k < l.length
  . obtain ⟨b,off,rfl,hcell⟩:=hc k hlt
    clear hc
    by_cases hx:ix l k=x
    . have HX:=hid hx
      have hx1:(ix l k == x)=true:=by simp [hx]
      clear hx;go_wp2;go_ret;exact ⟨Q0u (by rw [<- HR.out,Q3b hlt,Y7j,HX.out]; simp),rfl⟩
    . have hx1:(ix l k == x)=false:=by simp [hx]
      have HX:=hid hx; clear hx;go_wp2;go_round
      case rel=>exact ⟨k + 1,by omega,by go_num,by rw [<- HR.out,Q3b hlt,Y7j,beq_false_of_ne HX.out,Bool.false_or]⟩
      case measure=>simp [intOf]; omega
  . clear hc
    go_wp2;go_ret;exact ⟨Q0u (by rw [<- HR.out,List.drop_eq_nil_of_le (by omega)]; rfl),rfl⟩
end Go.Proofs
namespace Go.Tw
namespace Q0b
end Q0b
namespace Q0b
end Q0b
def always (s:Q0b) (c:Bool):List Rul:=s.hist.map fun h=>⟨h,c⟩
def J5w (p:List Rul) (n:Nat):List Rul:=(List.range p.length).map fun i=>⟨Q0n p i,Q3p p i != (i == n)⟩
namespace Mem
end Mem
def J2l (s:Q0b) (l:List Int):Int:=if 8 < l.length then 5 else
 Q0g ((List.range l.length).map fun i=>if ix l i < 0 ∨ (s.members.length:Int) <= ix l i then 10 else if 0 < i /\ ix l i <= ix l (i - 1) then 11 else 0)
namespace Mem
end Mem
end Go.Tw
namespace Go.Proofs
open Go.RowKit Go.Tw Go.Flow
theorem J7y {a b:List Int} {k:Nat} (ha:k < a.length) (hb:k < b.length):Q5y (a.drop k) (b.drop k)=if ix a k=ix b k then Q5y (a.drop (k + 1)) (b.drop (k + 1)) else decide (ix a k < ix b k):=by
 rw [Q3b ha,Q3b hb]; rfl
theorem J4o (w:World) (u v:Value) (l m:List Int) (hu:Q0d w u l) (hv:Q0d w v m) (hlen:l.length=m.length) :
    Calls Tryz.prog 117 #[u,v] w fun e w'=>e=.returned (.bool (Q5y l m)) /\ Ext w w':=by
 obtain ⟨A,cap,rfl,hl,hcap,hc⟩:=hu.opened;obtain ⟨A',cap',rfl,hl',hcap',hc'⟩:=hv.opened;clear hu hv;have i0:l.length <= m.length:=by omega
 have HLEN:=hid hlen; clear hlen;go_enter Tryz.func117,Tryz.ntmps117;go_wp2
 go_loopw [5] (fun i wr=>∃ k:Nat,k <= l.length /\ i=.int .i64 k /\ Q5y (l.drop k) (m.drop k)=Q5y l m /\ Ext w wr) (fun i _=>l.length - (intOf i).toNat)
 case atStart=>exact ⟨0,Nat.zero_le _,rfl,rfl,Ext.refl _⟩
 case round =>
  obtain ⟨k,hk,rfl,hr,hx⟩:=hrel;have HR:=hid hr; clear hr
  by_cases hlt:k < l.length
  . obtain ⟨b,off,rfl,hcell⟩:=hc k hlt
    obtain ⟨b',off',rfl,hcell'⟩:=hc' k (by omega)
    replace hcell:=hx.cell hcell;replace hcell':=hx.cell hcell';clear hc hc';have i1:(k:Int) < l.length:=by omega
    have i2:(k:Int) < m.length:=by omega
    have hst:=J7y hlt (show k < m.length by omega)
    have HST:=hid hst; clear hst
    by_cases hx0:ix l k=ix m k
    . have hx1:(ix l k != ix m k)=false:=by simp [hx0]
      have HX:=hid hx0; clear hx0;go_wp2
      go_quiet (fail)
      all_goals go_wp2
      go_roundw
      case rel=>exact ⟨k + 1,by omega,by go_num,by rw [<- HR.out,HST.out,if_pos HX.out],hx.drewN _⟩
      case measure=>simp [intOf]; omega
    . have hx1:(ix l k != ix m k)=true:=by simp [hx0]
      have HX:=hid hx0; clear hx0;go_wp2
      go_quiet (fail)
      all_goals go_wp2
      go_quiet (fail)
      all_goals go_wp2
      go_ret;exact ⟨Q0u (by rw [<- HR.out,HST.out,if_neg HX.out]),(hx.drewN _).drewN _⟩
  . clear hc hc'
    go_wp2;go_ret;exact ⟨Q0u (by rw [<- HR.out,List.drop_eq_nil_of_le (by omega)]; rfl),hx⟩
end Go.Proofs
namespace Go.Flow
open Go.RowKit Go.Tw
theorem J2k {a:Act} {u:Value} {x:Operand}:(a.put none u).eval x=a.eval x:=rfl
end Go.Flow
namespace Go.Proofs
open Go.RowKit Go.Tw Go.Flow
theorem J5g (w:World) (x:Int) :
    Calls Tryz.prog 23 #[.int .i64 x] w fun e w'=>e=.returned (.int .i64 (Q0f x 0 8000)) /\ w=w':=by
 go_enter Tryz.func23,Tryz.ntmps23;go_wp2_with (go_at_call 87; refine (Q2a _ x 0 8000).mono ?_; rintro e w' ⟨rfl,rfl⟩);go_ret;exact ⟨rfl,rfl⟩
end Go.Proofs
namespace Go.Tw
variable {s:Q0b}
def J4v (s:Q0b) (n:Nat):List Rul:=(List.range s.hist.length).map fun i=>⟨s.hist.getD i [],n.testBit i⟩
theorem J4w:∀ (m:Nat) (g:Nat -> Bool),∃ n,n < 2 ^ m /\ ∀ i,i < m -> n.testBit i=g i
 | 0,_=>⟨0,by decide,fun i h=>absurd h (Nat.not_lt_zero _)⟩
 | m + 1,g=>by
   obtain ⟨n,hn,h⟩:=J4w m g;cases hg:g m
   . refine ⟨n,by rw [Nat.pow_succ]; omega,fun i hi=>?_⟩
     by_cases e:i=m
     . subst e; rw [hg,Nat.testBit_lt_two_pow hn]
     . exact h i (by omega)
   . refine ⟨2 ^ m + n,by rw [Nat.pow_succ]; omega,fun i hi=>?_⟩
     by_cases e:i=m
     . subst e; rw [hg,Nat.testBit_two_pow_add_eq,Nat.testBit_lt_two_pow hn]; rfl
     . rw [Nat.testBit_two_pow_add_gt (by omega)]; exact h i (by omega)
theorem J4m {α:Type} (g:α -> Int):∀ (l:List α) (a:Int),a <= l.foldl (fun m x=>max m (g x)) a /\ (∀ x ∈ l,g x <= l.foldl (fun m x=>max m (g x)) a) /\
    (l.foldl (fun m x=>max m (g x)) a=a ∨ ∃ x ∈ l,l.foldl (fun m x=>max m (g x)) a=g x)
 | [],a=>⟨Int.le_refl _,fun _ h=>absurd h (by simp),.inl rfl⟩
 | y :: l,a=>by
   obtain ⟨h1,h2,h3⟩:=J4m g l (max a (g y));rw [List.foldl_cons];refine ⟨by omega,fun x hx=>?_,?_⟩
   . rcases List.mem_cons.1 hx with e | e
     . subst e; omega
     . exact h2 x e
   . rcases h3 with h3 | ⟨x,hx,h3⟩
     . by_cases e:a <= g y
       . exact .inr ⟨y,List.mem_cons_self,by omega⟩
       . exact .inl (by omega)
     . exact .inr ⟨x,List.mem_cons_of_mem _ hx,h3⟩
end Go.Tw
namespace Go.Tw
variable {s:Q0b}
theorem J6t {α:Type} {g h:α -> Int}:∀ {l:List α},(∀ x ∈ l,g x <= h x) -> (l.map g).sum <= (l.map h).sum
 | [],_=>Int.le_refl _
 | x :: l,hh=>by
   have h1:=hh x List.mem_cons_self;have h2:=J6t (l:=l) fun y hy=>hh y (List.mem_cons_of_mem _ hy);rw [List.map_cons,List.sum_cons,List.map_cons,List.sum_cons]; omega
theorem sum_add {α:Type} (g h:α -> Int):∀ l:List α,(l.map fun x=>g x + h x).sum=(l.map g).sum + (l.map h).sum
 | []=>rfl
 | x :: l=>by simp only [List.map_cons,List.sum_cons,sum_add g h l]; omega
theorem J6r {α β:Type} (F:α -> β -> Int) (m:List β):∀ l:List α,(l.map fun a=>(m.map fun b=>F a b).sum).sum=(m.map fun b=>(l.map fun a=>F a b).sum).sum
 | []=>by simp only [List.map_nil,List.sum_nil]; rw [X0p]
 | x :: l=>by simp only [List.map_cons,List.sum_cons,J6r F m l]; rw [sum_add]
theorem J5i {α:Type} {g:α -> Int} {l:List α} (h:∀ x ∈ l,0 <= g x):0 <= (l.map g).sum:=by
 have:=J6t (g:=fun _=>0) h
 rwa [X0p] at this
theorem J8y {α:Type} {g:α -> Int}:∀ {l:List α} {a:α},a ∈ l -> (∀ x ∈ l,0 <= g x) -> g a <= (l.map g).sum
 | [],_,h,_=>absurd h (by simp)
 | x :: l,a,h,h0=>by
   rw [List.map_cons,List.sum_cons];have h1:=J5i (g:=g) (l:=l) fun y hy=>h0 y (List.mem_cons_of_mem _ hy)
   rcases List.mem_cons.1 h with e | e
   . subst e; omega
   . have:=J8y e fun y hy=>h0 y (List.mem_cons_of_mem _ hy)
     have:=h0 x List.mem_cons_self; omega
theorem J5o (hv:Q1b s) (p:List Rul):0 <= Q2c s (Q3r s p):=by
 refine J5i fun i hi=>?_;obtain ⟨k,hk,rfl⟩:=List.mem_map.1 hi;have:=(hv.weights k (List.mem_range.1 (List.mem_filter.1 hk).1)).1;show 0 <= Q0i s.members k;omega
theorem J8i (hf:Fine s) (p:List Rul):∃ x ∈ Q2j s,Q2c s (Q3r s p) <= x.weight /\ x.closings <= Q4z s p /\ x.delay <= X2t s p:=by
 rw [<- Z5v hf,<- Y3m hf,<- Z3k hf];exact Y5s hf _
theorem J6j (x:Plan) (hx:x ∈ Q2j s):x.weight <= Z5c s:=(J4m Plan.weight (Q2j s) 0).2.1 x hx
theorem J5e:0 <= Z5c s:=(J4m Plan.weight (Q2j s) 0).1
theorem J4x (hv:Q1b s):∃ x ∈ Q2j s,x.weight=Z5c s:=by
 rcases (J4m Plan.weight (Q2j s) 0).2.2 with h | ⟨x,hx,h⟩
 . obtain ⟨x,hx,e,-,-⟩:=J8i hv.toFine []
   have h1:=J5o hv [];have h2:=J6j x hx;have h3:Z5c s=0:=h;exact ⟨x,hx,by omega⟩
 . exact ⟨x,hx,h.symm⟩
theorem J6s (need:Int):Best need ((Q2j s).map tri) ((Y2s s need).map fun x=>(x.closings,x.delay)) /\ ∀ x,Y2s s need=some x -> x ∈ Q2j s /\ need <= x.weight:=by
 have:=X7o need (Q2j s) [] none (fun t ht=>absurd ht (by simp)) (fun x hx=>by cases hx)
 simpa [Y2s] using this
theorem J8g (hv:Q1b s) (need:Int):(Y2s s need).isSome=true ↔ need <= Z5c s:=by
 obtain ⟨h1,h2⟩:=J6s (s:=s) need
 constructor
 . intro h
   obtain ⟨x,hx⟩:=Option.isSome_iff_exists.1 h;obtain ⟨k1,k2⟩:=h2 x hx;exact Int.le_trans k2 (J6j x k1)
 . intro h
   obtain ⟨x,hx,e⟩:=J4x hv;cases hb:Y2s s need with
   | some y=>rfl
   | none =>
     rw [hb] at h1;have:x.weight < need:=h1 (tri x) (List.mem_map.2 ⟨x,hx,rfl⟩);omega
theorem J8e {x:Plan} (h:Y2s s (Z5c s)=some x):x.weight=Z5c s:=by
 obtain ⟨k1,k2⟩:=(J6s (s:=s) _).2 x h;exact Int.le_antisymm (J6j x k1) k2
theorem J7u:∀ l:List Bool,∃ n,n < 2 ^ l.length /\ Q5u n l.length=l:=by
 intro l;obtain ⟨n,hn,h⟩:=J4w l.length fun i=>l.getD (l.length - 1 - i) false
 refine ⟨n,hn,?_⟩;unfold Q5u
 apply List.ext_getElem (by simp)
 intro i h1 h2;simp only [List.getElem_map,List.getElem_range];rw [h _ (by omega),Q0v _ (by omega)]
 congr 1
 omega
theorem J8o (s:Q0b) (l:List Nat) (n:Nat) (hn:n < 2 ^ s.ships.length):X7s s l n <= Y0x s l :=
 (J4m (X7s s l) (List.range (2 ^ s.ships.length)) 0).2.1 n (List.mem_range.2 hn)
def J8u (s:Q0b):List Nat:=(List.range s.members.length).filter fun i=>(Q9e s i).head? == some i
theorem J4j {i k:Nat}:k ∈ Q9e s i ↔ k < s.members.length /\ Q0c s.members k=Q0c s.members i:=by simp [Q9e]
theorem same_eq {i k:Nat} (h:Q0c s.members k=Q0c s.members i):Q9e s k=Q9e s i:=by unfold Q9e; rw [h]
theorem J9j {k:Nat} (hk:k < s.members.length):∃ r ∈ J8u s,k ∈ Q9e s r:=by
 have hmem:k ∈ Q9e s k:=J4j.2 ⟨hk,rfl⟩;obtain ⟨r,t,e⟩:∃ r t,Q9e s k=r :: t:=by cases h:Q9e s k with | nil=>rw [h] at hmem; cases hmem | cons a b=>exact ⟨a,b,rfl⟩
 have hr:r ∈ Q9e s k:=by rw [e]; exact List.mem_cons_self
 obtain ⟨h1,h2⟩:=J4j.1 hr;have e2:=same_eq h2;refine ⟨r,List.mem_filter.2 ⟨List.mem_range.2 h1,?_⟩,by rw [e2]; exact hmem⟩
 rw [e2,e]; simp
theorem J6w (hv:Q1b s) (p:List Rul):Q2c s (Q3r s p) <= Y7i s:=by
 have hb:Y7i s=((J8u s).map fun r=>Y0x s (Q9e s r)).sum:=by unfold Y7i Q5b J8u; rw [List.map_map]; rfl
 rw [hb];have hw:Q2c s (Q3r s p)=((List.range s.members.length).map fun k=>if (Q2e s k).keeps s.limit (Q0m p (Q2e s k).classes) then Q0i s.members k else 0).sum:=by
  unfold Q2c Q3r;rw [List.map_map,Q9h]; rfl
 rw [hw]
 let g:Nat -> Int:=fun k=>if (Q2e s k).keeps s.limit (Q0m p (Q2e s k).classes) then Q0i s.members k else 0
 have h0:∀ k ∈ List.range s.members.length,0 <= g k:=fun k hk=>by
  have:=(hv.weights k (List.mem_range.1 hk)).1;dsimp only [g]
  split <;> omega
 show ((List.range s.members.length).map g).sum <= _;have h1:((List.range s.members.length).map g).sum <= ((List.range s.members.length).map fun k=>((J8u s).map fun r=>if Q0c s.members k == Q0c s.members r then g k else 0).sum).sum:=by
  refine J6t fun k hk=>?_;obtain ⟨r,hr,hkr⟩:=J9j (List.mem_range.1 hk);have e:=J8y (g:=fun r=>if Q0c s.members k == Q0c s.members r then g k else 0) hr fun x _=>by
   split
   . exact h0 k hk
   . exact Int.le_refl _
  simp only [(J4j.1 hkr).2,beq_self_eq_true,if_true] at e
  simpa only [(J4j.1 hkr).2] using e
 refine Int.le_trans h1 ?_;rw [J6r];refine J6t fun r hr=>?_;have hr':=List.mem_range.1 (List.mem_filter.1 hr).1;rw [Q9h];show ((Q9e s r).map g).sum <= _;have hl:(Q0m p (Q2e s r).classes).length=s.ships.length:=by rw [Q2n]; exact (hv.shaped r hr').1
 obtain ⟨n,hn,e⟩:=J7u (Q0m p (Q2e s r).classes);rw [hl] at hn e;refine Int.le_trans (Int.le_of_eq ?_) (J8o s _ n hn);unfold X7s
 congr 1
 apply List.map_congr_left
 intro k hk;have hc:(Q2e s k).classes=(Q2e s r).classes:=(J4j.1 hk).2;show (if _ then _ else _)=_
 rw [hc,e]
theorem J7f (hv:Q1b s):Z5c s <= Y7i s:=by
 obtain ⟨x,hx,e⟩:=J4x hv;have:=(Z5r hv.toFine hx).1;rw [<- e,<- this]; exact J6w hv _
end Go.Tw
namespace Go.Proofs
open Go.RowKit Go.Tw Go.Flow
theorem J9e {s:Q0b} (hS:Q1b s) {p:List Rul} (hp:Q2d s.hist p=0):p.length <= 48:=by
 have:=Z5n hS;rw [<- Q4h.1 hp,List.length_map] at this;exact this
theorem Tryz.J4p (w:World):(isAgg 25).run Tryz.prog w=.ok true w:=by kernel_rfl
theorem Tryz.J3d (w:World):(sizeOf 25).run Tryz.prog w=.ok 3 w:=by kernel_rfl
attribute [local go_sem ↓] X3l
end Go.Proofs
namespace Go.Proofs
open Go.RowKit Go.Tw Go.Flow
theorem J7a {K:Value -> World -> Prop} {o:Oper} {a:Act} {w:World} (x:Operand) (t e:TypeId) (ho:o.op=.makeSlice t x x) (i:TypeInfo) (z:Value) (k bytes:Nat) (ht:Tryz.prog.underlying t=some (.slice e)) (hi:Tryz.prog.info? e=some i) (hz:i.zero=some z) (hs:i.size=k) (hby:i.bytes=bytes)
    (n:Nat) (hx:a.eval x=.int .i64 n) (hn:n <= 1000) (hb:bytes <= 1000)
    (h:K (.slice (some ⟨w.heap.size,0,none⟩) n n) (w.alloc (.cells (madeCells z.cells (n * k)) e))):gives Tryz.prog K ((execOp a.eval o).run Tryz.prog w):=by
 have hnb:bytes * n <= 1000 * 1000:=Nat.mul_le_mul hb hn;have hr:=run_make (P:=Tryz.prog) w t e i z ht hi hz .i64 .i64 n n (by omega) (Int.le_refl _) (by rw [hby]; have:((bytes * n:Nat):Int) <= 1000000:=(by omega); rw [Int.natCast_mul] at this; omega) (by omega)
 simp only [Int.toNat_natCast,hs] at hr;unfold execOp;simp only [ho,hx,Sem.run_bind,hr,Result.andThen_ok,Sem.run_pure];exact h
end Go.Proofs
namespace Go.Tw
def J2t (s:Q0b) (need:Int) (p:List Rul) (l:List Int):Bool:=l.any (fun i=>!has (Q3r s p) i) || decide (Q2c s l < need)
def J4k (s:Q0b) (need:Int) (p:List Rul) (l:List Int):Int:=Q0g [Q0f need 0 8000,Q2d s.hist p,J2l s l,if J2t s need p l then 22 else 0]
def J2s (s:Q0b) (need:Int) (p:List Rul) (l:List Int):Int:=if s.err ≠ 0 then s.err else J4k s need p l
theorem J3c {s:Q0b} {l:List Int}:J2l s l=0 ↔ l.length <= 8 /\ ∀ i,i < l.length -> (0 <= ix l i /\ ix l i < s.members.length) /\ (0 < i -> ix l (i - 1) < ix l i):=by
 unfold J2l
 by_cases h8:8 < l.length
 . rw [if_pos h8]
   constructor
   . intro h; cases h
   . intro h; omega
 . rw [if_neg h8,Q1r]
   constructor
   . intro h
     refine ⟨by omega,fun i hi=>?_⟩
     have:=h _ (List.mem_map.2 ⟨i,List.mem_range.2 hi,rfl⟩)
     split at this
     . cases this
     . split at this
       . cases this
       . rename_i h1 h2
         exact ⟨by omega,fun h0=>by
          apply Classical.byContradiction
          intro hn;exact h2 ⟨h0,by omega⟩⟩
   . rintro ⟨_,h⟩ e he
     obtain ⟨i,hi,rfl⟩:=List.mem_map.1 he;have hh:=h i (List.mem_range.1 hi);rw [if_neg (by omega),if_neg (fun hn=>by have:=hh.2 hn.1; omega)]
theorem J6m (s:Q0b) (p:List Rul):(Q3r s p).Pairwise (· < ·):=by
 unfold Q3r;rw [List.pairwise_map];exact (List.pairwise_lt_range.filter _).imp fun h=>Int.ofNat_lt.2 h
theorem J7r {s:Q0b} (h8:s.members.length <= 8) (p:List Rul):J2l s (Q3r s p)=0:=by
 rw [J3c];refine ⟨Nat.le_trans (kept_len s p) h8,fun i hi=>⟨?_,fun h0=>?_⟩⟩
 . rw [Q4s hi]; exact Q8t s p _ (List.getElem_mem hi)
 . rw [Q4s hi,Q4s (show i - 1 < (Q3r s p).length by omega)]
   exact List.pairwise_iff_getElem.1 (J6m s p) (i - 1) i (by omega) hi (by omega)
theorem J7l (s:Q0b) (p:List Rul) (need:Int):J2t s need p (Q3r s p)=decide (Q2c s (Q3r s p) < need):=by
 unfold J2t;have:(Q3r s p).any (fun i=>!has (Q3r s p) i)=false:=by
  rw [List.any_eq_false];intro x hx;rw [Z8p.2 hx]; simp
 rw [this,Bool.false_or]
theorem J5r {s:Q0b} (he:s.err=0) (h8:s.members.length <= 8) {p:List Rul} (hp:Q2d s.hist p=0) {need:Int} (hn:0 <= need /\ need <= 8000):J2s s need p (Q3r s p)=if Q2c s (Q3r s p) < need then 22 else 0:=by
 unfold J2s J4k;rw [if_neg (fun h=>h he),hp,J7r h8,J7l,show Q0f need 0 8000=0 by unfold Q0f; rw [if_neg (by omega)]]
 by_cases h:Q2c s (Q3r s p) < need
 . rw [decide_eq_true h,if_pos rfl,if_pos h]; rfl
 . rw [decide_eq_false h,if_neg h]; rfl
theorem J6x {s:Q0b} (he:s.err=0) {p:List Rul} (hp:Q2d s.hist p=0) {i:Nat} (hi:i < s.members.length) (hk:has (Q3r s p) i=false):J2s s 0 p [(i:Int)]=22:=by
 have hm:J2l s [(i:Int)]=0:=by
  rw [J3c];refine ⟨by simp,fun j hj=>?_⟩
  have:j=0:=by simpa using hj
  subst this;exact ⟨⟨Int.natCast_nonneg i,Int.ofNat_lt.2 hi⟩,fun h=>absurd h (Nat.lt_irrefl 0)⟩
 unfold J2s J4k;rw [if_neg (fun h=>h he),hp,hm];have:J2t s 0 p [(i:Int)]=true:=by
  unfold J2t;rw [List.any_cons,hk]; simp
 rw [this];rfl
theorem J7o {s:Q0b} (he:s.err=0) {p:List Rul} (hp:Q2d s.hist p=0) {x:Int} (hx:x ∈ Q3r s p):J2s s 0 p [x,x]=11:=by
 have hr:=Q8t s p x hx;have hm:J2l s [x,x]=11:=by
  obtain ⟨g,hg⟩:∃ g:Nat -> Int,g=fun i=>if ix [x,x] i < 0 ∨ (s.members.length:Int) <= ix [x,x] i then 10 else if 0 < i /\ ix [x,x] i <= ix [x,x] (i - 1) then 11 else 0:=⟨_,rfl⟩
  have h0:g 0=0:=by
   rw [hg];exact (if_neg (show ¬ (x < 0 ∨ (s.members.length:Int) <= x) by omega)).trans (if_neg (fun h=>absurd h.1 (Nat.lt_irrefl 0)))
  have h1:g 1=11:=by
   rw [hg];exact (if_neg (show ¬ (x < 0 ∨ (s.members.length:Int) <= x) by omega)).trans (if_pos ⟨Nat.one_pos,Int.le_refl x⟩)
  have h2:J2l s [x,x]=Q0g [g 0,g 1]:=by rw [hg]; rfl
  rw [h2,h0,h1];rfl
 unfold J2s J4k;rw [if_neg (fun h=>h he),hp,hm];rfl
def J2m (s:Q0b) (need:Int) (l:List Grp):Int:=if s.err ≠ 0 then s.err else if Q0f need 0 8000 ≠ 0 then 3 else if (l.map fun g=>(g.members,g.weight)) ≠ ((Q5b s).map fun g=>(g.members,g.weight)) ∨ need <= Y7i s then 22 else 0
theorem J5c (s:Q0b) (h:0 < s.members.length):Q5b s ≠ []:=by
 rw [X2a];intro e;have hr:0 ∈ X1b (Y1p s) s.members.length:=List.mem_filter.2 ⟨List.mem_range.2 h,Y8a.2 fun j hj=>absurd hj (Nat.not_lt_zero _)⟩;have hm:=List.mem_map_of_mem (f:=fun i=>(⟨(Q4r (Y1p s) s.members.length i).map Int.ofNat,Y0x s (Q4r (Y1p s) s.members.length i)⟩:Grp)) hr;rw [e] at hm;cases hm
theorem J6z (s:Q0b):(Q5b s).length <= s.members.length:=by
 rw [X2a,List.length_map];unfold X1b;exact Nat.le_trans (List.length_filter_le _ _) (by simp)
end Go.Tw
namespace Go.Tw
open Go.RowKit Go.Flow
theorem J5a {α:Type} (x d:α):∀ (n:Nat) (xs:List α) (i:Nat),n <= xs.length -> (xs.take n ++ [x] ++ xs.drop n).getD i d=if i < n then xs.getD i d else if i=n then x else xs.getD (i - 1) d
 | 0,xs,i,_=>by cases i <;> simp
 | n + 1,[],i,h=>by simp at h
 | n + 1,y :: ys,0,_=>by simp
 | n + 1,y :: ys,i + 1,h=>by
   have:=J5a x d n ys i (by simpa using h)
   simp only [List.take_succ_cons,List.drop_succ_cons,List.cons_append,List.getD_cons_succ,this]
   by_cases h1:i < n
   . have h1':i + 1 < n + 1:=by omega
     simp only [h1,h1',if_true]
   . have h1':¬ (i + 1 < n + 1):=by omega
     by_cases h2:i=n
     . subst h2
       simp
     . have h2':¬ (i + 1=n + 1):=by omega
       obtain ⟨m,rfl⟩:∃ m,i=m + 1:=⟨i - 1,by omega⟩
       simp only [h1,h1',h2,h2',if_false];simp
theorem Reads.insert {w:World} {vs:List Value} {ll:List (List Int)} {v:Value} {l:List Int} {n:Nat} (h:Reads w vs ll) (hv:Q0d w v l) (hn:n <= ll.length):Reads w (vs.take n ++ [v] ++ vs.drop n) (ll.take n ++ [l] ++ ll.drop n):=by
 have hl:=h.1;refine ⟨by simp [hl],fun i hi=>?_⟩
 rw [J5a _ _ _ _ _ (by omega),J5a _ _ _ _ _ hn]
 simp only [List.length_append,List.length_take,List.length_drop,List.length_singleton] at hi
 split
 . exact h.2 i (by omega)
 . split
   . exact hv
   . exact h.2 (i - 1) (by omega)
theorem J4u {w w1 w2:World} (hx:Ext w.drew w1) (hb:Below w.heap.size w1 w2):Ext w w2:=Below.trans (((Ext.refl w).drew).trans hx) hb
end Go.Tw
namespace Go.Tw
theorem J8m (p:List Rul) (n:Nat):(J5w p n).length=p.length:=by simp [J5w]
theorem J5q (p:List Rul) (n:Nat):(J5w p n).map Rul.classes=p.map Rul.classes:=by
 refine List.ext_getElem (by simp [J5w]) fun i h1 h2=>?_
 have hi:i < p.length:=by simpa using h2
 simp [J5w,Q7f hi]
theorem J7h {h:List (List Int)} {p:List Rul} {n:Nat} (hp:Q2d h p=0):Q2d h (J5w p n)=0:=by
 rw [Q4h] at hp ⊢;rw [J5q,hp]
end Go.Tw
namespace Go.Tw
open Go.RowKit Go.Flow
section
variable {α:Type} {enc:α -> List Value} {k:Nat}
theorem J6b {P:Program} {w:World} (dT sT ty elem:TypeId) (hu:P.underlying dT=some (.slice elem)) {sz:Nat} (hs:∀ w,(sizeOf elem).run P w=.ok sz w) (n dcap scap:Nat) {g:Nat} {T:TypeId} {cur:Array Value} (hb:Blk w g T cur) (sp:Option Addr) (cs:List Value) (hlen:cs.length=n * sz)
    (hsrc:∀ j v,cs[j]?=some v -> ∃ b off,sp=some ⟨b,off,none⟩ /\ w.cell? ⟨b,off + j,none⟩=some v) (hfit:cs.length <= cur.size) (h1:∀ v ∈ cs,v.oneCell'=true) :
    ∃ w',(Builtin.copy_ #[dT,sT] ty #[.slice (some ⟨g,0,none⟩) n dcap,.slice sp n scap]).run P w=.ok (goInt n) w' /\ Blk w' g T (Q2s cur 0 cs) /\ (∀ n,n <= g -> Below n w w') /\ ∀ k,k ≠ g -> w'.heap[k]?=w.heap[k]?:=by
 obtain ⟨w',hr,hb',hl,hoo⟩:=Q7b (P:=P) (off:=0) cs 0 w cur hb h1 (by simp; exact hfit)
 refine ⟨w',?_,hb',hl,hoo⟩;have hfc:(Builtin.firstCells sz n (.slice sp n scap)).run P w=.ok cs.toArray w:=by
  cases sp with
  | none =>
    have:cs=[]:=by
     cases cs with
     | nil=>rfl
     | cons v vs=>obtain ⟨b,off,he,_⟩:=hsrc 0 v rfl; cases he
    subst this;simp [Builtin.firstCells]
  | some ad =>
    have hl2:=run_loadCells_list (P:=P) w ad cs (fun j v hv=>by
     obtain ⟨b,off,he,hc⟩:=hsrc j v hv;cases he;rw [addr_add]; exact hc)
    rw [hlen] at hl2
    simpa [Builtin.firstCells] using hl2
 simp [Builtin.copy_,run_underlying hu,Builtin.lenOf,hs,hfc,hr]
end
end Go.Tw
namespace Go.Proofs
open Go.RowKit Go.Tw Go.Flow
attribute [local go_sem] Oper.semAt_some
def J5x (s:Q0b) (l:List Int) (i:Nat):Int:=if ix l i < 0 ∨ (s.members.length:Int) <= ix l i then 10 else if 0 < i /\ ix l i <= ix l (i - 1) then 11 else 0
theorem J6e (s:Q0b) (l:List Int) (h:¬ 8 < l.length):J2l s l=Q3f (J5x s l) l.length 0:=by
 unfold J2l; rw [if_neg h]; rfl
theorem J6o (s:Q0b) (l:List Int) (i:Nat):Q0g [Q0x (X1k s (ix l i)) 10,Q0x (decide (0 < i) && decide (ix l i <= ix l (i - 1))) 11]=J5x s l i:=by
 unfold J5x X1k Q0x Q0g Q0g Q0g
 by_cases h0:ix l i < 0 <;> by_cases h1:(s.members.length:Int) <= ix l i <;> by_cases h2:0 < i <;> by_cases h3:ix l i <= ix l (i - 1) <;> simp [h0,h1,h2,h3]
theorem J4q (w:World) (v u:Value) (s:Q0b) (l:List Int) (hv:Q0h w v s) (hu:Q0d w u l) :
    Calls Tryz.prog 133 #[v,u] w fun e w'=>e=.returned (.int .i64 (J2l s l)) /\ Ext w w':=by
 obtain ⟨a,b,rfl,h2⟩:=hv;obtain ⟨A,capa,rfl,-,-,-⟩:=h2.ships.opened;obtain ⟨B,capb,rfl,-,-,-⟩:=h2.members.opened;have H2:=hid h2;obtain ⟨U,cap,rfl,hl,hcap,hc⟩:=hu.opened;have HC:=hid hc;have HER:Hid (¬ 8 < l.length -> J2l s l=Q3f (J5x s l) l.length 0):=hid (J6e s l);have HMA:Hid (8 < l.length -> J2l s l=5):=hid (fun h=>by unfold J2l; rw [if_pos h])
 have hxW:=Ext.box w (.cells #[.int .i64 s.limit,.slice A s.ships.length capa,.slice B s.members.length capb] 34);clear h2 hu hc;go_enter Tryz.func133,Tryz.ntmps133
 by_cases h8:8 < l.length
 . have h8I:(8:Int) < l.length:=by omega
   have HF:=hid (HMA.out h8);clear h8;go_wp2;go_ret;exact ⟨Q1d HF.out.symm,hxW⟩
 . have h8I:¬ (8:Int) < l.length:=by omega
   have HF:=hid (HER.out h8);clear hxW;go_upto_region 1 with fail;change Code.wp _ _ _ _ (w.alloc (.cells #[.int .i64 s.limit,.slice A s.ships.length capa,.slice B s.members.length capb] 34));obtain ⟨W,hWW,k0,HXW,eW⟩:=Q1t w 34 #[.int .i64 s.limit,.slice A s.ships.length capa,.slice B s.members.length capb];rw [hWW];clear hWW;have K0:=hid k0;clear k0;go_wp2
   go_loopw [13] (fun i wr=>∃ k:Nat,k <= l.length /\ i=.int .i64 k /\ Q3f (J5x s l) l.length k=Q3f (J5x s l) l.length 0 /\ Ext W wr) (fun i _=>l.length - (intOf i).toNat)
   case atStart=>exact ⟨0,Nat.zero_le _,rfl,rfl,Ext.refl _⟩
   case round =>
    obtain ⟨k,hk,rfl,hr,hx⟩:=hrel;have HR:=hid hr;have HX:=hid hx;clear hr hx
    by_cases hlt:k < l.length
    . obtain ⟨bu,ou,rfl,hcu⟩:=HC.out k hlt
      have HCP:Hid (0 < k -> w.cell? ⟨bu,ou + (k - 1),none⟩=some (.int .i64 (ix l (k - 1)))):=hid (fun h=>by
       obtain ⟨b',o',he,hc'⟩:=HC.out (k - 1) (by omega)
       cases he; exact hc')
      replace hcu:=(HXW.out.trans HX.out).cell hcu;have HST:=hid (X1h (f:=J5x s l) hlt);have HFI:=hid (J6o s l k);obtain ⟨x,hxv⟩:∃ x,ix l k=x:=⟨_,rfl⟩;obtain ⟨y,hyv⟩:∃ x,ix l (k - 1)=x:=⟨_,rfl⟩;rw [hxv] at hcu HFI;rw [hyv] at HCP HFI;obtain ⟨E,hE⟩:∃ x,J5x s l k=x:=⟨_,rfl⟩;rw [hE] at HST HFI;obtain ⟨q,hq⟩:∃ q,X1k s x=q:=⟨_,rfl⟩;have HQ:=hid hq;rw [hq] at HFI;have hkI:(k:Int) < l.length:=by omega
      have kk:=K0.out.ext HX.out;have c0:=(kk).cell 0;have c1:=(kk).cell 1;have c2:=(kk).cell 2;simp only [Go.Tw.gA,Go.Tw.gB,Go.Tw.gC] at c0 c1 c2;have HIS:Hid (Q0h wr (.agg #[.int .i64 s.limit,.slice A s.ships.length capa,.slice B s.members.length capb]) s):=hid ⟨_,_,rfl,H2.out.ext (HXW.out.trans HX.out)⟩;clear hxv hyv hE hq kk
      go_light
      by_cases h0:0 < k
      . have h0I:(0:Int) < (k:Int):=by omega
        have HPC:=hid (HCP.out h0);have hwk:IntKind.i64.wrap ((k:Int) - 1)=(k:Int) - 1:=Q2v _ (by omega) (by omega)
        have hk1:(k:Int) - 1 < l.length:=by omega
        have hk3:((k:Int) - 1).toNat=k - 1:=by omega
        have hmx:1 < k -> max (0:Int) ((k:Int) - 1)=(k:Int) - 1:=fun _=>by omega
        have HF2:Hid (Q0g [Q0x q 10,Q0x (decide (x <= y)) 11]=E):=hid (by rw [<- HFI.out]; simp [h0])
        by_cases h1:1 < k
        . have h1I:(1:Int) < (k:Int):=by omega
          have hmy:=hmx h1;clear hmx;have hk2:(0:Int) <= (k:Int) - 1:=by omega
          clear h0
          by_cases hE0:E=0
          . have heb:(E != 0)=false:=by simp [hE0]
            have HZ:=hid hE0;clear hE0;go_wp2_with (first | (go_at_call 111; refine (Q5o _ _ s x HIS.out).mono ?_; rw [HQ.out]; rintro e w5 ⟨rfl,hx5⟩; have HX5:=hid (HX.out.trans hx5); have hpc:=(HXW.out.trans HX5.out).cell HPC.out) | (go_at_call 119; refine (Q6f _ _ _).mono ?_; rintro e w6 ⟨rfl,rfl⟩) | (go_at_call 96; refine (first_any _ _ [Q0x q 10,Q0x (decide (x <= y)) 11] (Q3q (by simp))).mono ?_; rw [HF2.out]; rintro e w7 ⟨rfl,rfl⟩))
            go_roundw
            case rel=>exact ⟨k + 1,by omega,by go_num,by rw [<- HR.out,HST.out,if_pos HZ.out],HX5.out.trans (Ext.box _ _)⟩
            case measure=>simp [intOf]; omega
          . have heb:(E != 0)=true:=by simp [hE0]
            have HZ:=hid hE0;clear hE0;go_wp2_with (first | (go_at_call 111; refine (Q5o _ _ s x HIS.out).mono ?_; rw [HQ.out]; rintro e w5 ⟨rfl,hx5⟩; have HX5:=hid (HX.out.trans hx5); have hpc:=(HXW.out.trans HX5.out).cell HPC.out) | (go_at_call 119; refine (Q6f _ _ _).mono ?_; rintro e w6 ⟨rfl,rfl⟩) | (go_at_call 96; refine (first_any _ _ [Q0x q 10,Q0x (decide (x <= y)) 11] (Q3q (by simp))).mono ?_; rw [HF2.out]; rintro e w7 ⟨rfl,rfl⟩))
            go_ret;exact ⟨Q1d (by rw [HF.out,<- HR.out,HST.out,if_neg HZ.out]),HXW.out.trans (HX5.out.trans (Ext.box _ _))⟩
        . have hk1e:k=1:=by omega
          clear hmx;subst hk1e;replace HPC:Hid (w.cell? ⟨bu,ou,none⟩=some (.int .i64 y)):=hid HPC.out;clear h0 h1
          by_cases hE0:E=0
          . have heb:(E != 0)=false:=by simp [hE0]
            have HZ:=hid hE0;clear hE0;go_wp2_with (first | (go_at_call 111; refine (Q5o _ _ s x HIS.out).mono ?_; rw [HQ.out]; rintro e w5 ⟨rfl,hx5⟩; have HX5:=hid (HX.out.trans hx5); have hpc:=(HXW.out.trans HX5.out).cell HPC.out) | (go_at_call 119; refine (Q6f _ _ _).mono ?_; rintro e w6 ⟨rfl,rfl⟩) | (go_at_call 96; refine (first_any _ _ [Q0x q 10,Q0x (decide (x <= y)) 11] (Q3q (by simp))).mono ?_; rw [HF2.out]; rintro e w7 ⟨rfl,rfl⟩))
            go_roundw
            case rel=>exact ⟨1 + 1,by omega,by go_num,by rw [<- HR.out,HST.out,if_pos HZ.out],HX5.out.trans (Ext.box _ _)⟩
            case measure=>simp [intOf]; omega
          . have heb:(E != 0)=true:=by simp [hE0]
            have HZ:=hid hE0;clear hE0;go_wp2_with (first | (go_at_call 111; refine (Q5o _ _ s x HIS.out).mono ?_; rw [HQ.out]; rintro e w5 ⟨rfl,hx5⟩; have HX5:=hid (HX.out.trans hx5); have hpc:=(HXW.out.trans HX5.out).cell HPC.out) | (go_at_call 119; refine (Q6f _ _ _).mono ?_; rintro e w6 ⟨rfl,rfl⟩) | (go_at_call 96; refine (first_any _ _ [Q0x q 10,Q0x (decide (x <= y)) 11] (Q3q (by simp))).mono ?_; rw [HF2.out]; rintro e w7 ⟨rfl,rfl⟩))
            go_ret;exact ⟨Q1d (by rw [HF.out,<- HR.out,HST.out,if_neg HZ.out]),HXW.out.trans (HX5.out.trans (Ext.box _ _))⟩
      . have hk0:k=0:=by omega
        subst hk0;rw [Nat.add_zero] at hcu;have HF2:Hid (Q0g [Q0x q 10,Q0x false 11]=E):=hid (by rw [<- HFI.out]; simp)
        clear h0
        by_cases hE0:E=0
        . have heb:(E != 0)=false:=by simp [hE0]
          have HZ:=hid hE0;clear hE0;go_wp2_with (first | (go_at_call 111; refine (Q5o _ _ s x HIS.out).mono ?_; rw [HQ.out]; rintro e w5 ⟨rfl,hx5⟩; have HX5:=hid (HX.out.trans hx5)) | (go_at_call 119; refine (Q6f _ _ _).mono ?_; rintro e w6 ⟨rfl,rfl⟩) | (go_at_call 96; refine (first_any _ _ [Q0x q 10,Q0x false 11] (Q3q (by simp))).mono ?_; rw [HF2.out]; rintro e w7 ⟨rfl,rfl⟩))
          go_roundw
          case rel=>exact ⟨0 + 1,by omega,by go_num,by rw [HST.out,if_pos HZ.out],HX5.out.trans (Ext.box _ _)⟩
          case measure=>simp [intOf]; omega
        . have heb:(E != 0)=true:=by simp [hE0]
          have HZ:=hid hE0;clear hE0;go_wp2_with (first | (go_at_call 111; refine (Q5o _ _ s x HIS.out).mono ?_; rw [HQ.out]; rintro e w5 ⟨rfl,hx5⟩; have HX5:=hid (HX.out.trans hx5)) | (go_at_call 119; refine (Q6f _ _ _).mono ?_; rintro e w6 ⟨rfl,rfl⟩) | (go_at_call 96; refine (first_any _ _ [Q0x q 10,Q0x false 11] (Q3q (by simp))).mono ?_; rw [HF2.out]; rintro e w7 ⟨rfl,rfl⟩))
          go_ret;exact ⟨Q1d (by rw [HF.out,HST.out,if_neg HZ.out]),HXW.out.trans (HX5.out.trans (Ext.box _ _))⟩
    . go_wp2
      go_ret;exact ⟨Q1d (by rw [HF.out,<- HR.out,X2k (by omega)]),HXW.out.trans HX.out⟩
end Go.Proofs
namespace Go.Proofs
open Go.RowKit Go.Tw Go.Flow
attribute [local go_sem] Oper.semAt_some
theorem Tryz.J8q (w:World):(sizeOf 167).run Tryz.prog w=.ok 2 w:=by kernel_rfl
end Go.Proofs
namespace Go.Proofs
open Go.RowKit Go.Tw Go.Flow
theorem J6y (w:World) (v:Value) (l:List Int) (x:Int) (hv:Q0d w v l) :
    Calls Tryz.prog 177 #[v,.int .i64 x] w fun e w'=>∃ r:Int,e=.returned (.int .i64 r) /\ decide (0 <= r)=has l x /\ w=w':=by
 obtain ⟨A,cap,rfl,hl,hcap,hc⟩:=hv.opened;clear hv;go_enter Tryz.func177,Tryz.ntmps177;go_wp2
 go_loop [8] (fun i=>∃ k:Nat,k <= l.length /\ i=.int .i64 k /\ has (l.drop k) x=has l x) (fun i=>l.length - (intOf i).toNat)
 case atStart=>exact ⟨0,Nat.zero_le _,rfl,rfl⟩
 case round =>
  obtain ⟨k,hk,rfl,hr⟩:=hrel;have HR:=hid hr; clear hr
  by_cases hlt:k < l.length
  . obtain ⟨b,off,rfl,hcell⟩:=hc k hlt
    clear hc
    by_cases hx:ix l k=x
    . have HX:=hid hx
      have hx1:(x == ix l k)=true:=by simp [hx]
      clear hx;go_wp2;go_ret;exact ⟨k,rfl,by rw [<- HR.out,Q3b hlt,Y7j,HX.out]; simp,rfl⟩
    . have hx1:(x == ix l k)=false:=by rw [beq_eq_false_iff_ne]; exact fun e=>hx e.symm
      have HX:=hid hx; clear hx;go_wp2;go_round
      case rel=>exact ⟨k + 1,by omega,by go_num,by rw [<- HR.out,Q3b hlt,Y7j,beq_false_of_ne HX.out,Bool.false_or]⟩
      case measure=>simp [intOf]; omega
  . clear hc
    go_wp2;go_ret;exact ⟨-1,rfl,by rw [<- HR.out,List.drop_eq_nil_of_le (by omega)]; rfl,rfl⟩
theorem J5l (w:World) (v:Value) (l:List Int) (x:Int) (hv:Q0d w v l) :
    Calls Tryz.prog 140 #[v,.int .i64 x] w fun e w'=>e=.returned (.bool (has l x)) /\ w=w':=by
 obtain ⟨A,cap,rfl,hl,hcap,hc⟩:=hv.opened;have HV:=hid hv;clear hv hc;go_enter Tryz.func140,Tryz.ntmps140;go_wp2_with (go_at_call 177; refine (J6y _ _ l x HV.out).mono ?_; rintro e w' ⟨r,rfl,hr,rfl⟩; have HR:=hid hr; clear hr);go_ret;exact ⟨Q0u HR.out,rfl⟩
end Go.Proofs
