/- Small aids for the uses of the region theorem and for boxes. What the functions of chapter 5 come to, in plain lists and numbers: no program is in sight here. Contracts of the reference: before, count, dry. Contracts of the reference: delay, Weight. Contract of the reference: Weight. Contracts of the reference: CheckNeed, OnlyMembers. Plain law: the greatest weight and the best cost over the plans are those over all policies by their codes. The closings of a policy as the reference makes them (each rule that fits is put behind) are those of the specification: plain lists, no program is in sight. Contract of the reference: closings. Contract of the reference: Play. Contract of the reference: Kept. -/
import Derived.Test.YthnobngcipaljaaGreatDoorPo34
import Derived.Test.YthnobngcipaljaaGreatDoorPo36
set_option maxRecDepth 1000000
set_option maxHeartbeats 64000000
set_option linter.unusedVariables false
set_option linter.unusedSimpArgs false
set_option linter.constructorNameAsVariable false
namespace Go.Tw
open Go.RowKit Go.Flow
theorem J4t {α:Type} {P:Program} {K:Value -> World -> Prop} {o:Oper} {a:Act} {w:World} (s x:Operand) (t:TypeId) (ho:o.op = .call { callee:=.builtin .append,args:=#[s,x],argTypes:=#[t,t] })
    (base:Nat) (e:TypeId) (i:TypeInfo) (z:Value) (bytes:Nat) (ht:P.underlying t = some (.slice e)) (hi:P.info? e = some i) (hz:i.zero = some z) (hsize:i.size = 1) (hby:i.bytes = bytes) (hzs:z.cells.size = 1)
    (enc:α -> Value) (v src:Value) (ys:List α) (hs:a.eval s = v) (hv:∃ g,v = .slice (some ⟨g,0,none⟩) 0 0 /\ base <= g /\ w.heap[g]? = some (.cells #[] e (0,0))) (hx:a.eval x = src) (hsrc:Src w enc src ys) (h1:∀ y ∈ ys,(enc y).oneCell' = true)
    (h63:ys.length <= 4398046511104) (hb:bytes <= 32) (hbase:base <= w.heap.size)
    (h:∀ v' w',Q0t w' base e enc v' ys -> Ext w w' -> K v' w'):gives P K ((execOp a.eval o).run P w):=by
 obtain ⟨g,rfl,hbg,hg⟩:=hv;have hown:Q0t w base e enc (.slice (some ⟨g,0,none⟩) 0 0) ([]:List α):=⟨by simp,.inr ⟨g,0,#[],rfl,hbg,hg,Nat.le_refl _,Nat.zero_le _,rfl,by simp⟩⟩
 obtain ⟨A,c,rfl,hc⟩:=hsrc;cases ys with
 | nil =>
   unfold execOp;simp only [ho,resolve,invoke,builtin,Sem.run_bind,Sem.run_pure,Result.andThen_ok,List.map_toArray,List.map_cons,List.map_nil,hs,hx];rw [List.length_nil,Q8t (P:=P) w t o.type e i ht hi _ A 0 0 c (Nat.le_refl _)];exact h _ _ hown (Ext.refl _)
 | cons y ys =>
   obtain ⟨b0,off0,rfl,_⟩:=hc 0 (by simp)
   have hnews:∀ j u,((y :: ys).map enc)[j]? = some u -> w.cell? ((⟨b0,off0,none⟩:Addr).add j) = some u:=fun j u hu=>by
    rw [List.getElem?_map] at hu
    rcases Nat.lt_or_ge j (y :: ys).length with hj | hj
    . rw [List.getElem?_eq_getElem hj] at hu
      simp only [Option.map_some,Option.some.injEq] at hu;obtain ⟨b',off',hA,hcell⟩:=hc j hj;cases hA;rw [<- hu,addr_add]; exact hcell
    . rw [List.getElem?_eq_none hj] at hu; cases hu
   have hbytes:(y :: ys).length * bytes <= 140737488355328:=by
    have:(y :: ys).length * bytes <= 4398046511104 * 32:=Nat.mul_le_mul h63 hb;omega
   obtain ⟨v',w',hr,h2,h3,h4⟩:=run_append_own (P:=P) w base t o.type e i z 1 bytes ht hi hz hsize hby hzs (by decide) _ 0 (([]:List α).map enc) hown ⟨b0,off0,none⟩ (y :: ys).length c ((y :: ys).map enc) (by simp) hnews (fun u hu=>by obtain ⟨y,hy,rfl⟩:=List.mem_map.1 hu; exact h1 y hy) (by unfold maxLen; omega) (by rw [Nat.zero_add]; exact hbytes) hbase
   have hgr:=run_append_grow (P:=P) w t o.type e i z ht hi hz ⟨g,0,none⟩ 0 0 [] (by simp) (by simp) ⟨b0,off0,none⟩ (y :: ys).length c ((y :: ys).map enc) (by rw [hsize]; simp) hnews (by simp) (by simp only [List.length_cons] at h63 ⊢; omega) (by rw [hby]; exact growslice_fits (by simp) (by rw [Nat.zero_add]; exact hbytes))
   rw [hr] at hgr;injection hgr with hv' hw';unfold execOp;simp only [ho,resolve,invoke,builtin,Sem.run_bind,Sem.run_pure,Result.andThen_ok,List.map_toArray,List.map_cons,List.map_nil,hs,hx,hr];refine h v' w' ?_ (by rw [hw']; exact ((Ext.refl w).drew).alloc _)
   unfold Q0t
   simpa using h2
end Go.Tw
namespace Go.Tw
namespace Q0b
end Q0b
namespace Q0b
end Q0b
def always (s:Q0b) (c:Bool):List Rul:=s.hist.map fun h=>⟨h,c⟩
namespace Mem
end Mem
namespace Mem
end Mem
end Go.Tw
namespace Go.Proofs
open Go.RowKit Go.Tw Go.Flow
theorem J8r {a b:List Int} {k:Nat} (ha:k < a.length) (hb:k < b.length):Q6e (a.drop k) (b.drop k) = if ix a k = ix b k then Q6e (a.drop (k + 1)) (b.drop (k + 1)) else decide (ix a k < ix b k):=by
 rw [Q3b ha,Q3b hb]; rfl
theorem J6q (w:World) (u v:Value) (l m:List Int) (hu:Q0d w u l) (hv:Q0d w v m) (hlen:l.length = m.length) :
    Calls Tryz.prog 117 #[u,v] w fun e w'=>e = .returned (.bool (Q6e l m)) /\ Ext w w':=by
 obtain ⟨A,cap,rfl,hl,hcap,hc⟩:=hu.opened;obtain ⟨A',cap',rfl,hl',hcap',hc'⟩:=hv.opened;clear hu hv;have i0:l.length <= m.length:=by omega
 have HLEN:=Lib.hid hlen; clear hlen;go_enter Tryz.func117,Tryz.ntmps117;go_wp2
 go_loopw [5] (fun i wr=>∃ k:Nat,k <= l.length /\ i = .int .i64 k /\ Q6e (l.drop k) (m.drop k) = Q6e l m /\ Ext w wr) (fun i _=>l.length - (intOf i).toNat)
 case atStart=>exact ⟨0,Nat.zero_le _,rfl,rfl,Ext.refl _⟩
 case round =>
  obtain ⟨k,hk,rfl,hr,hx⟩:=hrel;have HR:=Lib.hid hr; clear hr
  by_cases hlt:k < l.length
  . obtain ⟨b,off,rfl,hcell⟩:=hc k hlt
    obtain ⟨b',off',rfl,hcell'⟩:=hc' k (by omega)
    replace hcell:=hx.cell hcell;replace hcell':=hx.cell hcell';clear hc hc';have i1:(k:Int) < l.length:=by omega
    have i2:(k:Int) < m.length:=by omega
    have hst:=J8r hlt (show k < m.length by omega)
    have HST:=Lib.hid hst; clear hst
    by_cases hx0:ix l k = ix m k
    . have hx1:(ix l k != ix m k) = false:=by simp [hx0]
      have HX:=Lib.hid hx0; clear hx0;go_wp2
      go_quiet (fail)
      all_goals go_wp2
      go_roundw
      case rel=>exact ⟨k + 1,by omega,by go_num,by rw [<- HR.out,HST.out,if_pos HX.out],hx.drewN _⟩
      case measure=>simp [intOf]; omega
    . have hx1:(ix l k != ix m k) = true:=by simp [hx0]
      have HX:=Lib.hid hx0; clear hx0;go_wp2
      go_quiet (fail)
      all_goals go_wp2
      go_quiet (fail)
      all_goals go_wp2
      go_ret;exact ⟨Q0s (by rw [<- HR.out,HST.out,if_neg HX.out]),(hx.drewN _).drewN _⟩
  . clear hc hc'
    go_wp2;go_ret;exact ⟨Q0s (by rw [<- HR.out,List.drop_eq_nil_of_le (by omega)]; rfl),hx⟩
end Go.Proofs
namespace Go.Proofs
open Go.RowKit Go.Tw Go.Flow
def J5l (s:Q0b) (l:List Bool) (k:Nat):Int:=((List.range k).map fun t=>if bx l t then ix s.ships t else 0).sum
theorem J6s (s:Q0b) (l:List Bool) (k:Nat):J5l s l (k + 1) = J5l s l k + if bx l k then ix s.ships k else 0:=by
 unfold J5l;rw [List.range_succ,List.map_append,List.sum_append]; simp
theorem J6r {s:Q0b} (hv:Q0y s) (l:List Bool):∀ k,k <= s.ships.length -> 0 <= J5l s l k /\ J5l s l k <= 1000 * k
 | 0,_=>⟨Int.le_refl _,Int.le_refl _⟩
 | k + 1,h=>by
   obtain ⟨h1,h2⟩:=J6r hv l k (by omega)
   have:=hv.delays _ (List.getElem_mem (show k < s.ships.length by omega))
   rw [<- Q4w] at this;rw [J6s]
   split <;> omega
theorem J8f (w:World) (v u:Value) (s:Q0b) (l:List Bool) (hv:Q0h w v s) (hu:Q0x w u l) (hs:Q0y s) (hle:l.length <= s.ships.length) :
    Calls Tryz.prog 107 #[v,u] w fun e w'=>e = .returned (.int .i64 (Q6i s l)) /\ Ext w w':=by
 obtain ⟨a,b,rfl,h2⟩:=hv;obtain ⟨A,capa,rfl,hla,hcapa,hca⟩:=h2.ships.opened;obtain ⟨B,capb,rfl,-,-,-⟩:=h2.members.opened;obtain ⟨U,cap,rfl,hl,hcap,hc⟩:=hu.opened;clear hu h2;have hxW:=Ext.box w (.cells #[.int .i64 s.limit,.slice A s.ships.length capa,.slice B s.members.length capb] 25);have k0:=Blk.made w 25 #[.int .i64 s.limit,.slice A s.ships.length capa,.slice B s.members.length capb];have c1:=k0.cell 1;simp only [Go.Tw.gA,Go.Tw.gB,Go.Tw.gC] at c1;clear k0;have HX:=Lib.hid hxW; clear hxW;have HS:=Lib.hid hs; clear hs;have HT:Hid (s.ships.length <= 6):=HS.out.tides.2;go_enter Tryz.func107,Tryz.ntmps107;go_wp2
 go_loopw [5,6] (fun n i wr=>∃ (k:Nat) (m:Int),k <= l.length /\ i = .int .i64 k /\ n = .int .i64 m /\ m = J5l s l k /\ Ext (w.alloc (.cells #[.int .i64 s.limit,.slice A s.ships.length capa,.slice B s.members.length capb] 25)) wr) (fun _ i _=>l.length - (intOf i).toNat)
 case atStart=>exact ⟨0,0,Nat.zero_le _,rfl,rfl,rfl,Ext.refl _⟩
 case round =>
  obtain ⟨k,m,hk,rfl,rfl,hr,hx⟩:=hrel;have HR:=Lib.hid hr; clear hr;replace c1:=hx.cell c1
  by_cases hlt:k < l.length
  . obtain ⟨b,off,rfl,-,hcell⟩:=hc k hlt
    obtain ⟨b',off',rfl,hcell'⟩:=hca k (by omega)
    replace hcell:=(HX.out.trans hx).cell hcell;replace hcell':=(HX.out.trans hx).cell hcell';have i1:(k:Int) < s.ships.length:=by omega
    have hb1:=J6r HS.out l k (by omega)
    have hb2:=J6r HS.out l (k + 1) (by omega)
    have HSU:=Lib.hid (J6s s l k);have ht:=HT.out;rw [<- HR.out] at hb1;clear hc hca;cases hb:bx l k
    . rw [hb] at hcell
      have HB:=Lib.hid hb; clear hb hb1 hb2;go_wp2;go_roundw
      case rel=>exact ⟨k + 1,m,by omega,by go_num,rfl,by rw [HSU.out,HB.out,HR.out]; simp,hx⟩
      case measure=>simp [intOf]; omega
    . rw [hb] at hcell
      have hsum:J5l s l (k + 1) = m + ix s.ships k:=by rw [HSU.out,hb,HR.out]; simp
      rw [hsum] at hb2;have HSM:=Lib.hid hsum; clear hsum;have HB:=Lib.hid hb; clear hb;have i2:0 <= m + ix s.ships k:=hb2.1;have i3:m + ix s.ships k <= 100000:=by omega
      clear hb1 hb2;go_wp2;go_roundw
      case rel=>exact ⟨k + 1,m + ix s.ships k,by omega,by go_num,by go_num,HSM.out.symm,hx⟩
      case measure=>simp [intOf]; omega
  . clear hc hca
    go_wp2;go_ret;exact ⟨Q1f (by rw [HR.out,show k = l.length by omega]; rfl),HX.out.trans hx⟩
end Go.Proofs
namespace Go.Proofs
open Go.RowKit Go.Tw Go.Flow
theorem J4z (w:World) (v u:Value) (s:Q0b) (l:List Int) (hv:Q0h w v s) (hu:Q0d w u l) (hs:Q0y s) (hin:∀ x ∈ l,0 <= x /\ x < s.members.length) (hle:l.length <= 4096) :
    Calls Tryz.prog 29 #[v,u] w fun e w'=>e = .returned (.int .i64 (Q2e s l)) /\ Ext w w':=by
 obtain ⟨a,b,rfl,h2⟩:=hv;obtain ⟨A,capa,rfl,-,-,-⟩:=h2.ships.opened;obtain ⟨B,capb,rfl,hlb,hcapb,hcb⟩:=h2.members.opened;obtain ⟨U,cap,rfl,hl,hcap,hc⟩:=hu.opened;clear hu h2;have hxW:=Ext.box w (.cells #[.int .i64 s.limit,.slice A s.ships.length capa,.slice B s.members.length capb] 25);have k0:=Blk.made w 25 #[.int .i64 s.limit,.slice A s.ships.length capa,.slice B s.members.length capb];have c2:=k0.cell 2;simp only [Go.Tw.gA,Go.Tw.gB,Go.Tw.gC] at c2;clear k0;have HX:=Lib.hid hxW; clear hxW;have HS:=Lib.hid hs; clear hs;have HIN:=Lib.hid hin; clear hin;have HM:Hid (s.members.length <= 8):=HS.out.some.2;go_enter Tryz.func29,Tryz.ntmps29;go_wp2
 go_loopw [5,6] (fun n i wr=>∃ (k:Nat) (m:Int),k <= l.length /\ i = .int .i64 k /\ n = .int .i64 m /\ m = Q4n s l k /\ Ext (w.alloc (.cells #[.int .i64 s.limit,.slice A s.ships.length capa,.slice B s.members.length capb] 25)) wr) (fun _ i _=>l.length - (intOf i).toNat)
 case atStart=>exact ⟨0,0,Nat.zero_le _,rfl,rfl,rfl,Ext.refl _⟩
 case round =>
  obtain ⟨k,m,hk,rfl,rfl,hr,hx⟩:=hrel;have HR:=Lib.hid hr; clear hr;replace c2:=hx.cell c2
  by_cases hlt:k < l.length
  . obtain ⟨b,off,rfl,hcell⟩:=hc k hlt
    have h3:=HIN.out _ (List.getElem_mem hlt);rw [<- Q4w hlt] at h3;obtain ⟨j,hj⟩:∃ j:Nat,ix l k = j:=⟨(ix l k).toNat,by omega⟩
    obtain ⟨b',off',x,y,z,rfl,-,-,hcell',-⟩:=hcb j (by omega)
    replace hcell:=(HX.out.trans hx).cell hcell;replace hcell':=(HX.out.trans hx).cell hcell';have hb2:=X6j HS.out HIN.out (k + 1) (by omega)
    have hsum:Q4n s l (k + 1) = m + Q0k s.members j:=by rw [X1x hlt,HR.out,hj,Int.toNat_natCast]
    rw [hsum] at hb2;rw [hj] at hcell h3;have HSM:=Lib.hid hsum; clear hsum;have i1:(k:Int) < l.length:=by omega
    have i0:(j:Int) < s.members.length:=h3.2;have i2:0 <= m + Q0k s.members j:=hb2.1;have i3:m + Q0k s.members j <= 10000000:=by omega
    clear hb2 h3 hj hc hcb;go_wp2
    go_quiet (fail)
    all_goals go_wp2
    go_roundw
    case rel=>exact ⟨k + 1,m + Q0k s.members j,by omega,by go_num,by go_num,HSM.out.symm,hx.drewN _⟩
    case measure=>simp [intOf]; omega
  . clear hc hcb
    go_wp2;go_ret;exact ⟨Q1f (by rw [HR.out,show k = l.length by omega,Q4n,List.take_length]),HX.out.trans hx⟩
end Go.Proofs
namespace Go.Proofs
open Go.RowKit Go.Tw Go.Flow
theorem J7i (w:World) (x:Int) :
    Calls Tryz.prog 23 #[.int .i64 x] w fun e w'=>e = .returned (.int .i64 (Q0f x 0 8000)) /\ w = w':=by
 go_enter Tryz.func23,Tryz.ntmps23;go_wp2_with (go_at_call 87; refine (Q2b _ x 0 8000).mono ?_; rintro e w' ⟨rfl,rfl⟩);go_ret;exact ⟨rfl,rfl⟩
end Go.Proofs
namespace Go.Tw
variable {s:Q0b}
def J4q (s:Q0b) (n:Nat):List Rul:=(List.range s.hist.length).map fun i=>⟨s.hist.getD i [],n.testBit i⟩
def J4u (s:Q0b):Nat -> Int
 | 0=>0
 | n + 1=>max (J4u s n) (Q2e s (Q3r s (J4q s n)))
def J8i (s:Q0b):Int:=J4u s (2 ^ s.hist.length)
def J4y (s:Q0b) (need:Int):Nat -> Option (Int × Int)
 | 0=>none
 | n + 1=>pick need (J4y s need n) (Q2e s (Q3r s (J4q s n))) (Q5f s (J4q s n)) (X4u s (J4q s n))
def J6v (s:Q0b) (need:Int):Option (Int × Int):=J4y s need (2 ^ s.hist.length)
theorem J6y:∀ (m:Nat) (g:Nat -> Bool),∃ n,n < 2 ^ m /\ ∀ i,i < m -> n.testBit i = g i
 | 0,_=>⟨0,by decide,fun i h=>absurd h (Nat.not_lt_zero _)⟩
 | m + 1,g=>by
   obtain ⟨n,hn,h⟩:=J6y m g;cases hg:g m
   . refine ⟨n,by rw [Nat.pow_succ]; omega,fun i hi=>?_⟩
     by_cases e:i = m
     . subst e; rw [hg,Nat.testBit_lt_two_pow hn]
     . exact h i (by omega)
   . refine ⟨2 ^ m + n,by rw [Nat.pow_succ]; omega,fun i hi=>?_⟩
     by_cases e:i = m
     . subst e; rw [hg,Nat.testBit_two_pow_add_eq,Nat.testBit_lt_two_pow hn]; rfl
     . rw [Nat.testBit_two_pow_add_gt (by omega)]; exact h i (by omega)
theorem J9f (g:List Int -> Bool) {n:Nat} (h:∀ i,i < s.hist.length -> n.testBit i = g (s.hist.getD i [])):J4q s n = s.hist.map fun x=>⟨x,g x⟩:=by
 unfold J4q;rw [X0g [] _ s.hist]
 apply List.map_congr_left
 intro i hi;rw [h i (List.mem_range.1 hi)]
theorem J7t (hf:Fine s) {x:Plan} (hx:x ∈ Q2m s):∃ n,n < 2 ^ s.hist.length /\ Q2e s (Q3r s (J4q s n)) = x.weight /\ Q5f s (J4q s n) = x.closings /\ X4u s (J4q s n) = x.delay:=by
 obtain ⟨n,hn,h⟩:=J6y s.hist.length fun i=>x.closed.contains (Q5x (s.hist.getD i []))
 refine ⟨n,hn,?_⟩;rw [<- Z7i hf,<- Y6r hf,<- Z5y hf];refine Y7i hf hx _ fun i hi u h0 hu=>?_;rw [J9f (fun y=>x.closed.contains (Q5x y)) h];exact Y9h _ _ _ (Z4x hi h0 hu)
theorem J7s (hf:Fine s) (n:Nat):∃ x ∈ Q2m s,Q2e s (Q3r s (J4q s n)) <= x.weight /\ x.closings <= Q5f s (J4q s n) /\ x.delay <= X4u s (J4q s n):=by
 rw [<- Z7i hf,<- Y6r hf,<- Z5y hf];exact Y7z hf _
theorem J8c {α:Type} (g:α -> Int):∀ (l:List α) (a:Int),a <= l.foldl (fun m x=>max m (g x)) a /\ (∀ x ∈ l,g x <= l.foldl (fun m x=>max m (g x)) a) /\
    (l.foldl (fun m x=>max m (g x)) a = a ∨ ∃ x ∈ l,l.foldl (fun m x=>max m (g x)) a = g x)
 | [],a=>⟨Int.le_refl _,fun _ h=>absurd h (by simp),.inl rfl⟩
 | y :: l,a=>by
   obtain ⟨h1,h2,h3⟩:=J8c g l (max a (g y));rw [List.foldl_cons];refine ⟨by omega,fun x hx=>?_,?_⟩
   . rcases List.mem_cons.1 hx with e | e
     . subst e; omega
     . exact h2 x e
   . rcases h3 with h3 | ⟨x,hx,h3⟩
     . by_cases e:a <= g y
       . exact .inr ⟨y,List.mem_cons_self,by omega⟩
       . exact .inl (by omega)
     . exact .inr ⟨x,List.mem_cons_of_mem _ hx,h3⟩
theorem J7l:∀ n,0 <= J4u s n /\ (∀ i,i < n -> Q2e s (Q3r s (J4q s i)) <= J4u s n) /\ (J4u s n = 0 ∨ ∃ i,i < n /\ J4u s n = Q2e s (Q3r s (J4q s i)))
 | 0=>⟨Int.le_refl _,fun _ h=>absurd h (Nat.not_lt_zero _),.inl rfl⟩
 | n + 1=>by
   obtain ⟨h1,h2,h3⟩:=J7l n;rw [J4u];refine ⟨by omega,fun i hi=>?_,?_⟩
   . by_cases e:i = n
     . subst e; omega
     . have:=h2 i (by omega); omega
   . by_cases e:J4u s n <= Q2e s (Q3r s (J4q s n))
     . exact .inr ⟨n,by omega,by omega⟩
     . rcases h3 with h3 | ⟨i,hi,h3⟩
       . exact .inl (by omega)
       . exact .inr ⟨i,by omega,by omega⟩
theorem J9l (hf:Fine s):Z8r s = J8i s:=by
 obtain ⟨h1,h2,h3⟩:=J8c Plan.weight (Q2m s) 0;obtain ⟨g1,g2,g3⟩:=J7l (s:=s) (2 ^ s.hist.length);unfold Z8r J8i
 apply Int.le_antisymm
 . rcases h3 with h3 | ⟨x,hx,h3⟩
   . rw [h3]; exact g1
   . obtain ⟨n,hn,e,-,-⟩:=J7t hf hx
     rw [h3,<- e]; exact g2 n hn
 . rcases g3 with g3 | ⟨i,hi,g3⟩
   . rw [g3]; exact h1
   . obtain ⟨x,hx,e,-,-⟩:=J7s hf i
     rw [g3]; exact Int.le_trans e (h2 x hx)
theorem J7y {need:Int} {l m:List (Int × Int × Int)} {r q:Option (Int × Int)} (hr:Best need l r) (hq:Best need m q)
    (h1:∀ t ∈ l,∃ u ∈ m,t.1 <= u.1 /\ u.2.1 <= t.2.1 /\ u.2.2 <= t.2.2) (h2:∀ t ∈ m,∃ u ∈ l,t.1 <= u.1 /\ u.2.1 <= t.2.1 /\ u.2.2 <= t.2.2):r = q:=by
 cases r with
 | none =>
   cases q with
   | none=>rfl
   | some p =>
     obtain ⟨⟨t,ht,hn,-,-⟩,-⟩:=hq;obtain ⟨u,hu,e,-,-⟩:=h2 t ht;have:=hr u hu; omega
 | some p =>
   obtain ⟨a,b⟩:=p;obtain ⟨⟨t,ht,hn,ha,hb⟩,hm⟩:=hr;obtain ⟨u,hu,e1,e2,e3⟩:=h1 t ht;cases q with
   | none=>have:=hq u hu; omega
   | some p =>
     obtain ⟨x,y⟩:=p;obtain ⟨⟨t',ht',hn',ha',hb'⟩,hm'⟩:=hq;obtain ⟨u',hu',e1',e2',e3'⟩:=h2 t' ht';have k1:=hm' u hu (by omega)
     have k2:=hm u' hu' (by omega)
     rw [show a = x by omega,show b = y by omega]
def J9u (s:Q0b) (n:Nat):Int × Int × Int:=(Q2e s (Q3r s (J4q s n)),Q5f s (J4q s n),X4u s (J4q s n))
theorem J6w (need:Int):∀ n,Best need ((List.range n).map (J9u s)) (J4y s need n)
 | 0=>fun t ht=>absurd ht (by simp)
 | n + 1=>by rw [List.range_succ,List.map_append]; exact Z3o (J6w need n) _ _ _
theorem J8s (hf:Fine s) (need:Int):((Y4m s need).map fun x=>(x.closings,x.delay)) = J6v s need:=by
 obtain ⟨h,-⟩:=Y0m need (Q2m s) [] none (fun t ht=>absurd ht (by simp)) (fun x hx=>by cases hx)
 refine J7y h (J6w (s:=s) need (2 ^ s.hist.length)) ?_ ?_
 . intro t ht
   obtain ⟨x,hx,rfl⟩:=List.mem_map.1 ht;obtain ⟨n,hn,e1,e2,e3⟩:=J7t hf (show x ∈ Q2m s from by simpa using hx)
   exact ⟨J9u s n,List.mem_map.2 ⟨n,List.mem_range.2 hn,rfl⟩,by simp only [tri,J9u]; omega,by simp only [tri,J9u]; omega,by simp only [tri,J9u]; omega⟩
 . intro t ht
   obtain ⟨n,hn,rfl⟩:=List.mem_map.1 ht;obtain ⟨x,hx,e1,e2,e3⟩:=J7s hf n;exact ⟨tri x,List.mem_map.2 ⟨x,by simpa using hx,rfl⟩,e1,e2,e3⟩
end Go.Tw
namespace Go.Tw
def J4r (p:List Rul) (h:List Int):List Bool:=(p.filter fun r=>r.classes == h).map Rul.close
def J5m (p:List Rul) (l:List Int) (n:Nat):List Bool:=(List.range n).flatMap fun t=>J4r p (l.take (t + 1))
theorem J6t:∀ {p:List Rul} {h:List Int},h ∉ p.map Rul.classes -> J4r p h = []
 | [],_,_=>rfl
 | r :: p,h,hm=>by
   unfold J4r;rw [List.map_cons,List.mem_cons,not_or] at hm;rw [List.filter_cons,if_neg (by simpa using fun e=>hm.1 e.symm)]
   exact J6t hm.2
theorem J6x:∀ {p:List Rul} {h:List Int},(p.map Rul.classes).Nodup -> h ∈ p.map Rul.classes -> J4r p h = [look p h]
 | [],_,_,hm=>by cases hm
 | r :: p,h,hn,hm=>by
   rw [List.map_cons,List.nodup_cons] at hn
   by_cases hr:r.classes = h
   . subst hr
     have h0:=J6t hn.1;unfold J4r look at *;rw [List.filter_cons,if_pos (by simp),List.map_cons,h0,List.find?_cons]
     simp
   . rw [List.map_cons,List.mem_cons] at hm
     have hm':h ∈ p.map Rul.classes:=hm.resolve_left fun e=>hr e.symm;have ih:=J6x hn.2 hm';unfold J4r look at *;rw [List.filter_cons,if_neg (by simpa using hr),ih,List.find?_cons]
     have:(r.classes == h) = false:=by simpa using hr
     rw [this]
theorem J9h {s:Q0b} (hs:s.Shaped) {p:List Rul} (hp:Q2g s.hist p = 0) {i:Nat} (hi:i < s.members.length) (hl:(Q0c s.members i).length = s.ships.length):J5m p (Q0c s.members i) s.ships.length = Q0o p (Q0c s.members i):=by
 have he:=Q4g.1 hp;have hn:(p.map Rul.classes).Nodup:=by rw [he]; exact Z5s (Q0b.Y9x hs)
 unfold J5m Q0o;rw [hl];have:∀ l:List Nat,(∀ t ∈ l,t < s.ships.length) -> (l.flatMap fun t=>J4r p ((Q0c s.members i).take (t + 1))) = l.map fun t=>look p ((Q0c s.members i).take (t + 1)):=by
  intro l
  induction l with
  | nil=>intro _; rfl
  | cons t l ih =>
    intro ht;rw [List.flatMap_cons,List.map_cons,ih fun u hu=>ht u (List.mem_cons_of_mem _ hu),J6x hn]
    . rfl
    . rw [he]
      exact (Q0b.Q4v _ _).2 ⟨t,ht t (List.mem_cons_self ..),i,hi,rfl⟩
 exact this _ fun t ht=>List.mem_range.1 ht
end Go.Tw
namespace Go.Proofs
open Go.RowKit Go.Tw Go.Flow
attribute [local go_sem] Oper.semAt_some
theorem J7j (p:List Rul) (l:List Int) (t:Nat):J5m p l (t + 1) = J5m p l t ++ J4r p (l.take (t + 1)):=by
 unfold J5m;rw [List.range_succ,List.flatMap_append];simp
theorem J7o (p:List Rul) (h:List Int) {j:Nat} (hj:j < p.length):J4r (p.take (j + 1)) h = if Q0w p j = h then J4r (p.take j) h ++ [Q4q p j] else J4r (p.take j) h:=by
 unfold J4r Q0w Q4q;rw [List.take_succ_eq_append_getElem hj,List.filter_append,List.map_append,Q0v _ hj]
 by_cases h1:p[j].classes = h
 . rw [if_pos h1]; simp [h1]
 . rw [if_neg h1]; simp [h1]
theorem J7c (p:List Rul) (h:List Int):(J4r p h).length <= p.length:=by
 unfold J4r;rw [List.length_map];exact List.length_filter_le _ _
theorem J7f (p:List Rul) (l:List Int):∀ t,(J5m p l t).length <= t * p.length
 | 0=>by simp [J5m]
 | t + 1=>by
   rw [J7j,List.length_append,Nat.add_mul,Nat.one_mul];have:=J7f p l t;have:=J7c p (l.take (t + 1));omega
theorem J7m (w:World) (v u:Value) (s:Q0b) (p:List Rul) (i:Nat) (hv:Q0h w v s) (hu:Q1c w u p) (him:i < s.members.length) (hl:(Q0c s.members i).length = s.ships.length) (ht:s.ships.length <= 8) (hp:p.length <= 100) :
    Calls Tryz.prog 106 #[v,u,.int .i64 (i:Int)] w fun e w'=>∃ x,e = .returned x /\ Q0x w' x (J5m p (Q0c s.members i) s.ships.length) /\ Ext w w':=by
 obtain ⟨i0,hi,hz0,hz1,hz2⟩:=info_parts Tryz.X5z;obtain ⟨a,b,rfl,h2⟩:=hv;obtain ⟨rv,rfl,hr⟩:=hu;obtain ⟨A,capa,rfl,hla,-,-⟩:=h2.ships.opened;obtain ⟨B,capb,rfl,hlb,-,hc⟩:=h2.members.opened;obtain ⟨R,capr,rfl,hlr,-,hcr⟩:=hr.opened;obtain ⟨bm,off,x,y,z,rfl,hbm,e0,e1,e2,e3,e4,hx,hy,hz,-⟩:=hc i him;obtain ⟨C,capc,rfl,-,hcapc,hcC⟩:=hx.opened;have HCR:=Lib.hid hcr;have HXI:=Lib.hid hx;have HE2:=Lib.hid e2;have hiI:(i:Int) < s.members.length:=by omega
 rw [hl] at hcapc;have HCX:=Lib.hid hcC;obtain ⟨lc,hlc⟩:∃ x,Q0c s.members i = x:=⟨_,rfl⟩;rw [hlc] at hl HXI HE2 HCX ⊢;rw [hl] at HE2;have HLEN:=Lib.hid hl;clear hc hx hy hz hcC hcr hr h2 hlc e0 e1 e2 e3 e4 hl;go_enter Tryz.func106,Tryz.ntmps106;go_wp2_with fail;change Code.wp _ _ _ _ ((w.alloc (.cells #[.int .i64 s.limit,.slice A s.ships.length capa,.slice (some ⟨bm,off,none⟩) s.members.length capb] 25)).alloc (.cells #[.slice R p.length capr] 47));obtain ⟨W,hWW,k0,k1,HXW,eW⟩:=Q4e w 25 #[.int .i64 s.limit,.slice A s.ships.length capa,.slice (some ⟨bm,off,none⟩) s.members.length capb] 47 #[.slice R p.length capr];rw [hWW];clear hWW;have K0:=Lib.hid k0;have K1:=Lib.hid k1;obtain ⟨gs,hgs⟩:∃ x,w.heap.size = x:=⟨_,rfl⟩;rw [hgs] at K0 K1 eW ⊢;clear k0 k1
 go_loopw [7,8] (fun o t wr=>∃ (k:Nat),k <= s.ships.length /\ t = .int .i64 k /\ Q0t wr W.heap.size 4 .bool o (J5m p lc k) /\ Ext W wr) (fun _ t _=>s.ships.length - (intOf t).toNat)
 case atStart=>exact ⟨0,Nat.zero_le _,rfl,Q0t.nil _ _ _ _,Ext.refl _⟩
 case round =>
  obtain ⟨k,hk,rfl,hown,hxk⟩:=hrel;have c1:=(K0.out.ext hxk).cell 1;simp only [Go.Tw.gA,Go.Tw.gB,Go.Tw.gC] at c1;have HXK:=Lib.hid hxk;have HOW:=Lib.hid hown;clear hxk hown
  by_cases hlt:k < s.ships.length
  . have hkI:(k:Int) < s.ships.length:=by omega
    obtain ⟨bc,oc,hCe,_⟩:=HCX.out k (by rw [HLEN.out]; exact hlt)
    subst hCe
    go_light
    go_wp2_with fail
    go_loopw [7,9] (fun o j wr=>∃ (m:Nat),m <= p.length /\ j = .int .i64 m /\ Q0t wr W.heap.size 4 .bool o (J5m p lc k ++ J4r (p.take m) (lc.take (k + 1))) /\ Ext W wr) (fun _ j _=>p.length - (intOf j).toNat)
    case atStart=>exact ⟨0,Nat.zero_le _,rfl,by rw [List.take_zero,show J4r [] (lc.take (k + 1)) = [] from rfl,List.append_nil]; exact HOW.out,HXK.out⟩
    case round =>
     obtain ⟨m,hm,rfl,hown,hxr⟩:=hrel;have p0:=(K1.out.ext hxr).cell 0;simp only [Go.Tw.gA,Go.Tw.gB,Go.Tw.gC] at p0;have HXR:=Lib.hid hxr;have HOR:=Lib.hid hown;clear hxr hown
     by_cases hml:m < p.length
     . obtain ⟨br,orr,xr,hR,_,hx0,hx1,hxi⟩:=HCR.out m hml
       subst hR;have hmI:(m:Int) < p.length:=by omega
       obtain ⟨Xr,cxr,rfl,-,-,-⟩:=hxi.opened;have hsuc:=J7o p (lc.take (k + 1)) hml;obtain ⟨cl,hcl⟩:∃ x,Q0w p m = x:=⟨_,rfl⟩;obtain ⟨cb,hcb⟩:∃ x,Q4q p m = x:=⟨_,rfl⟩;rw [hcl] at hx0 hxi hsuc;rw [hcb] at hx1 hsuc;have HCLS:=Lib.hid hxi;have HSUC:=Lib.hid hsuc;obtain ⟨hk1,hhk⟩:∃ x,lc.take (k + 1) = x:=⟨_,rfl⟩;have HPRE:Hid (Q0d w (.slice (some ⟨bc,oc,none⟩) (k + 1) capc) hk1):=Lib.hid (by rw [<- hhk]; rw [show (Value.slice (some ⟨bc,oc,none⟩) (k + 1) capc) = .slice (some ⟨bc,oc,none⟩) (k + 1) capc from rfl]; exact X6x HXI.out (by rw [HLEN.out]; omega))
       rw [hhk] at HSUC HOR ⊢;obtain ⟨q,hq⟩:∃ q,decide (cl = hk1) = q:=⟨_,rfl⟩;have HQ:=Lib.hid hq;have hkc:k + 1 <= capc:=by omega
       have hkcI:(k:Int) + 1 <= (capc:Int):=by omega
       have hkc1:¬ ((0:Int) <= (k:Int) + 1 -> (capc:Int) < (k:Int) + 1):=by omega
       have hkc2:¬ capc = 0:=by omega
       have hkc4:¬ (k:Int) + 1 < 0:=by omega
       have hkc3:((k:Int) + 1).toNat = k + 1:=by omega
       have hwk:IntKind.i64.wrap ((k:Int) + 1) = (k:Int) + 1:=Q2p _ (by omega) (by omega)
       have hdr:=(Ext.refl wr).drew;have HX0:=Lib.hid hx0;have HX1:=Lib.hid hx1;clear hx0 hx1 hxi hsuc hcl hcb hhk hq;have HE3:=Lib.hid HE2.out
       go_light
       go_wp2;refine Flow.Q1h [.p,.w,.p,.p,.p,.w,.p,.w,.p,.p,.p,.w,.p,.p,.p,.w] [0,1,2,3,4,5,6,7,8,9,10,11,12,13,14,15] [[],[0],[],[1,2],[3],[4],[],[6],[],[7,8],[9],[10],[],[12],[11,13],[5,14]]
        [.c 0 (.pointer (some ⟨gs + 1,0,none⟩)),.c 1 (.slice (some ⟨br,orr,none⟩) p.length capr),.c 2 (.int .i64 (m:Int)),.c 3 (.pointer (some ⟨br,orr + m * 2,none⟩)),.c 4 (.pointer (some ⟨br,orr + m * 2,none⟩)),.c 5 (.slice Xr cl.length cxr),.c 6 (.pointer (some ⟨gs,2,none⟩)),.c 7 (.slice (some ⟨bm,off,none⟩) s.members.length capb),.c 8 (.int .i64 (i:Int)),.c 9 (.pointer (some ⟨bm,off + i * 5,none⟩)),.c 10 (.pointer (some ⟨bm,off + i * 5 + 2,none⟩)),.c 11 (.slice (some ⟨bc,oc,none⟩) s.ships.length capc),.c 12 (.int .i64 (k:Int)),.c 13 (.int .i64 ((k:Int) + 1)),.c 14 (.slice (some ⟨bc,oc,none⟩) (k + 1) capc),.c 15 (.bool q)]
        (by kernel_rfl) rfl (by kernel_rfl) ⟨?g0,?g1,?g2,?g3,?g4,?g5,?g6,?g7,?g8,?g9,?g10,?g11,?g12,?g13,?g14,?g15,trivial⟩ ?post
       case g0 | g2 | g6 | g8 | g12=>
        intro v w1 hx;intro bb hbb;subst hbb;refine ⟨_,fun w=>?_,rfl⟩;go_simp
       case g1 | g5 | g7 | g11=>
        intro v w1 hx;(repeat intro (zq:v _ = _));intro bb hbb;subst hbb;have n0:w1.cell? ⟨gs + 1,0,none⟩ = some (.slice (some ⟨br,orr,none⟩) p.length capr):=(K1.out.ext (HXR.out.trans (hdr.trans hx))).cell 0;have n1:w1.cell? ⟨br,orr + m * 2,none⟩ = some (.slice Xr cl.length cxr):=(HXW.out.trans (HXR.out.trans (hdr.trans hx))).cell HX0.out;have n2:w1.cell? ⟨gs,2,none⟩ = some (.slice (some ⟨bm,off,none⟩) s.members.length capb):=(K0.out.ext (HXR.out.trans (hdr.trans hx))).cell 2;have n3:w1.cell? ⟨bm,off + i * 5 + 2,none⟩ = some (.slice (some ⟨bc,oc,none⟩) s.ships.length capc):=(HXW.out.trans (HXR.out.trans (hdr.trans hx))).cell HE3.out;intro K hK;go_simp;exact hK _ _ (Ext.refl _) rfl
       case g3 | g4 | g9 | g10 | g13 | g14=>
        intro v w1 hx;(repeat intro (zq:v _ = _));intro bb hbb;subst hbb;refine ⟨_,fun w=>?_,rfl⟩;go_simp
       case g15=>
        intro v w1 hx;(repeat intro (zq:v _ = _));intro bb hbb;subst hbb;intro K hK;go_simp;refine Q0e (Q8m w1 _ _ cl hk1 (HCLS.out.ext (HXW.out.trans (HXR.out.trans (hdr.trans hx)))) (HPRE.out.ext (HXW.out.trans (HXR.out.trans (hdr.trans hx))))) ?_;rintro e w2 ⟨rfl,hx2⟩;rw [HQ.out];exact ⟨_,rfl,hK _ _ hx2 rfl⟩
       case post =>
        intro v w1 hx;(iterate 16 intro (zq:v _ = _));simp only [Flow.All,Flow.acts,Act.put];go_simp;have hxx:=HXR.out.trans (hdr.trans hx);have hown:=HOR.out.below (hdr.trans hx);have pp0:=(K1.out.ext hxx).cell 0;simp only [Go.Tw.gA,Go.Tw.gB,Go.Tw.gC] at pp0;have hcb:=(HXW.out.trans hxx).cell HX1.out;have HXX:=Lib.hid hxx;clear hx hdr hkc1 hkc2 hkc3 hkc4 hkcI hwk p0;(repeat clear zq);obtain ⟨w3,rfl⟩:∃ X,X = w1:=⟨_,rfl⟩;cases q with
        | true =>
          have hqe:cl = hk1:=of_decide_eq_true HQ.out;have HST:Hid (J5m p lc k ++ J4r (p.take (m + 1)) hk1 = J5m p lc k ++ J4r (p.take m) hk1 ++ [cb]):=Lib.hid (by rw [HSUC.out,if_pos hqe,List.append_assoc])
          have hlen1:=J7f p lc k;have hlen2:k * p.length <= 8 * 100:=Nat.mul_le_mul (by omega) hp
          have hlen3:=J7c (p.take m) hk1;have hlen4:(p.take m).length <= m:=by rw [List.length_take]; omega
          have hll:(J5m p lc k ++ J4r (p.take m) hk1).length <= 4096:=by rw [List.length_append]; omega
          have HOW3:=Lib.hid hown;have hx3:=HXX.out;clear hqe hlen1 hlen2 hlen3 hlen4;go_wp2_with (at_builtin; refine wpList_append_own _ rfl _ _ 82 rfl (W.heap.size) 4 i0 (.bool false) 1 1 Tryz.underlying82 hi hz0 hz1 hz2 rfl (by decide) _ _ _ rfl (World.ownsRow.alloc hown _) ⟨w3.heap.size,0,none⟩ 1 1 [.bool cb] rfl rfl ?_ ?_ ?_ ?_ ?_ ?_; exact Q4b _ _ _; (focus (simp [Value.oneCell'])); (focus (unfold maxLen; omega)); (focus omega); (focus (have:=hx3.size; simp at this ⊢; omega)); intro v' w1 hown' hgrow _)
          have hx':=Q2l hx3 HOW3.out (Nat.le_refl _) hgrow;go_roundw
          case rel=>exact ⟨m + 1,by omega,by go_num,by rw [HST.out]; exact Q0t.snoc hown',hx'⟩
          case measure=>simp [intOf]; omega
        | false =>
          have hqe:¬ cl = hk1:=of_decide_eq_false HQ.out;have HST:Hid (J4r (p.take (m + 1)) hk1 = J4r (p.take m) hk1):=Lib.hid (by rw [HSUC.out,if_neg hqe])
          have HOW3:=Lib.hid hown;clear hqe hown;go_wp2;go_roundw
          case rel=>exact ⟨m + 1,by omega,by go_num,by rw [HST.out]; exact HOW3.out,HXX.out⟩
          case measure=>simp [intOf]; omega
     . have hmI:¬ (m:Int) < p.length:=by omega
       have hme:m = p.length:=by omega
       subst hme;have HNX:Hid (J5m p lc k ++ J4r (p.take p.length) (lc.take (k + 1)) = J5m p lc (k + 1)):=Lib.hid (by rw [List.take_length,J7j])
       go_wp2;go_roundw
       case rel=>exact ⟨k + 1,by omega,by go_num,by rw [<- HNX.out]; exact HOR.out,HXR.out⟩
       case measure=>simp [intOf]; omega
  . have hkI:¬ (k:Int) < s.ships.length:=by omega
    have hke:k = s.ships.length:=by omega
    subst hke;go_wp2;go_ret;exact ⟨_,rfl,HOW.out.bools (by have:=J7f p lc s.ships.length; have:s.ships.length * p.length <= 8 * 100:=Nat.mul_le_mul ht hp; omega),HXW.out.trans HXK.out⟩
end Go.Proofs
namespace Go.Proofs
open Go.RowKit Go.Tw Go.Flow
theorem J9p {s:Q0b} (hS:Q0y s) {p:List Rul} (hp:Q2g s.hist p = 0):p.length <= 48:=by
 have:=Z7m hS;rw [<- Q4g.1 hp,List.length_map] at this;exact this
theorem Tryz.J9q (w:World):(isAgg 99).run Tryz.prog w = .ok true w:=by kernel_rfl
theorem Tryz.J8w (w:World):(sizeOf 99).run Tryz.prog w = .ok 2 w:=by kernel_rfl
theorem J7q {w w':World} {g b k:Nat} {T:TypeId} {cs:Array Value} {x:Value} (hb:Blk w g T cs) (hx:∀ u ∈ cs.toList,u ≠ x) (ho:∀ k,k ≠ g -> w'.heap[k]? = w.heap[k]?) (h:w.cell? ⟨b,k,none⟩ = some x):w'.cell? ⟨b,k,none⟩ = some x:=by
 by_cases hbg:b = g
 . subst hbg
   rw [hb.cell] at h;have hm:x ∈ cs:=Array.mem_of_getElem? h;exact absurd rfl (hx x (Array.mem_toList_iff.2 hm))
 . rw [<- h]
   exact World.cell?_of_block (w:=w) (ho b hbg)
theorem J8o {w w':World} {v:Value} {l:List Bool} {g:Nat} {T:TypeId} {cs:Array Value} (h:Q0x w v l) (hb:Blk w g T cs) (hx:∀ u ∈ cs.toList,∀ b,u ≠ .bool b) (ho:∀ k,k ≠ g -> w'.heap[k]? = w.heap[k]?):Q0x w' v l:=by
 obtain ⟨c,⟨A,cap,hv,hn,hcap,hc⟩,h2⟩:=h;refine ⟨c,⟨A,cap,hv,hn,hcap,fun j hj=>?_⟩,h2⟩;obtain ⟨b,off,hA,h⟩:=hc j hj;refine ⟨b,off,hA,?_⟩;have e:=h2 j (by omega)
 simp only [Nat.mul_one,Nat.add_zero] at e;rw [e] at h ⊢;exact J7q hb (fun u hu=>hx u hu _) ho h
theorem J9a {w w':World} {v:Value} {l:List Int} {g:Nat} {T:TypeId} {cs:Array Value} (h:Q0d w v l) (hb:Blk w g T cs) (hx:∀ u ∈ cs.toList,∀ b,u ≠ .int .i64 b) (ho:∀ k,k ≠ g -> w'.heap[k]? = w.heap[k]?):Q0d w' v l:=by
 obtain ⟨c,⟨A,cap,hv,hn,hcap,hc⟩,h2⟩:=h;refine ⟨c,⟨A,cap,hv,hn,hcap,fun j hj=>?_⟩,h2⟩;obtain ⟨b,off,hA,h⟩:=hc j hj;refine ⟨b,off,hA,?_⟩;have e:=h2 j (by omega)
 simp only [Nat.mul_one,Nat.add_zero] at e;rw [e] at h ⊢;exact J7q hb (fun u hu=>hx u hu _) ho h
attribute [local go_sem ↓] X5o
theorem J5e (w:World) (v u:Value) (s:Q0b) (p:List Rul) (i:Nat) (hv:Q0h w v s) (hu:Q1c w u p) (hS:Q0y s) (hp:Q2g s.hist p = 0) (him:i < s.members.length) :
    Calls Tryz.prog 106 #[v,u,.int .i64 (i:Int)] w fun e w'=>∃ x,e = .returned x /\ Q0x w' x (Q0o p (Q0c s.members i)) /\ Ext w w':=by
 have hl:=(hS.shaped i him).1;have h:=J7m w v u s p i hv hu him hl (by have:=hS.tides.2; omega) (by have:=J9p hS hp; omega)
 rw [J9h hS.shaped hp him hl] at h;exact h
theorem J8q (w:World) (v u:Value) (s:Q0b) (p:List Rul) (i:Nat) (hv:Q0h w v s) (hu:Q1c w u p) (hS:Q0y s) (hp:Q2g s.hist p = 0) (him:i < s.members.length) :
    Calls Tryz.prog 60 #[v,u,.int .i64 (i:Int)] w fun e w'=>∃ x y,e = .returned (.agg #[x,y]) /\ Q0x w' x (Q0o p (Q0c s.members i)) /\ Q0d w' y ((Q1l s i).Q3e (Q0o p (Q0c s.members i))) /\ Ext w w':=by
 have hlen:=Q2r p (Q0c s.members i);have hsh:=hS.shaped i him;have h6:=hS.tides.2;have HC1:Hid (∀ (w:World) (v u:Value),Q0h w v s -> Q1c w u p -> Calls Tryz.prog 106 #[v,u,.int .i64 (i:Int)] w fun e w'=>∃ x,e = .returned x /\ Q0x w' x (Q0o p (Q0c s.members i)) /\ Ext w w'):=Lib.hid (fun w v u h1 h2=>J5e w v u s p i h1 h2 hS hp him);have HF1:Hid (∀ (w:World) (v u:Value),Q0h w v s -> Q0x w u (Q0o p (Q0c s.members i)) -> Calls Tryz.prog 51 #[v,.int .i64 (i:Int),u] w fun e w'=>∃ x,e = .returned x /\ Q0d w' x ((Q1l s i).Q3e (Q0o p (Q0c s.members i))) /\ Ext w w'):=Lib.hid (fun w v u h1 h2=>X0v w v u s i _ h1 him h2 (by omega) (by rw [hlen,hsh.1]; exact Nat.le_of_eq hsh.2.1.symm) (by rw [hlen,hsh.1]; exact Nat.le_of_eq hsh.2.2.symm) (hS.inflow i him))
 obtain ⟨a,b,rfl,h2⟩:=hv;obtain ⟨rv,rfl,hr⟩:=hu;obtain ⟨A,capa,rfl,-,-,-⟩:=h2.ships.opened;obtain ⟨B,capb,rfl,-,-,-⟩:=h2.members.opened;obtain ⟨R,capr,rfl,-,-,-⟩:=hr.opened;have H2:=Lib.hid h2;have HR:=Lib.hid hr;obtain ⟨cl,hcl⟩:∃ x,Q0o p (Q0c s.members i) = x:=⟨_,rfl⟩;obtain ⟨pk,hpk⟩:∃ x,(Q1l s i).Q3e (Q0o p (Q0c s.members i)) = x:=⟨_,rfl⟩;rw [hpk] at HF1 ⊢;rw [hcl] at HF1 HC1 ⊢;clear h2 hr hlen hsh h6 hcl hpk hS hp;go_enter Tryz.func60,Tryz.ntmps60;go_wp2_with fail;change Calls _ _ _ (((w.alloc (.cells #[.int .i64 s.limit,.slice A s.ships.length capa,.slice B s.members.length capb] 25)).alloc (.cells #[.slice R p.length capr] 47)).alloc (.cells #[.slice none 0 0,.slice none 0 0] 99)) _;obtain ⟨W,hWW,k0,k1,k2,HXW,eW⟩:=X7w w 25 #[.int .i64 s.limit,.slice A s.ships.length capa,.slice B s.members.length capb] 47 #[.slice R p.length capr] 99 #[.slice none 0 0,.slice none 0 0];rw [hWW];clear hWW;have K2:=Lib.hid k2;have HXX:=Lib.hid HXW.out;refine (HC1.out _ _ _ ⟨_,_,rfl,H2.out.ext HXW.out⟩ ⟨_,rfl,HR.out.ext HXW.out⟩).mono ?_;rintro e w1 ⟨x,rfl,hx,hx1⟩;obtain ⟨X,cx,rfl,-,-,-⟩:=hx.opened;have HCL:=Lib.hid hx;have HX1:=Lib.hid (HXX.out.trans hx1);have kk:=k0.ext hx1;have c0:=kk.cell 0;have c1:=kk.cell 1;have c2:=kk.cell 2;simp only [Go.Tw.gA,Go.Tw.gB,Go.Tw.gC] at c0 c1 c2;replace K2:=Lib.hid (K2.out.ext hx1);clear hx hx1 kk k0 k1 k2;go_wp2_with fail;refine (HF1.out _ _ _ ⟨_,_,rfl,H2.out.ext HX1.out⟩ HCL.out).mono ?_;rintro e w2 ⟨y,rfl,hy,hx2⟩;obtain ⟨Y,cy,rfl,-,-,-⟩:=hy.opened;have HPK:=Lib.hid hy;replace HCL:=Lib.hid (HCL.out.ext hx2);replace K2:=Lib.hid (K2.out.ext hx2);have HX2:=Lib.hid (HX1.out.trans hx2);have hgl:w.heap.size + 1 + 1 ≥ w.heap.size:=by omega
 clear hy hx2 c0 c1 c2;go_wp2_with (refine Q0u rfl _ _ 99 rfl Tryz.J8w rfl rfl K2.out rfl rfl ?_ ?_; (focus (intro u hu; simp only [List.mem_cons,List.not_mem_nil,or_false] at hu; rcases hu with rfl | rfl <;> rfl)); intro w9 hb9 hl9 ho9)
 refine bodyPost_ret (Q2d Tryz.results60 rfl hb9 Tryz.J9q Tryz.J8w) rfl ?_;have hne:∀ u ∈ (#[Value.slice none 0 0,Value.slice none 0 0]:Array Value).toList,∃ a n c,u = .slice a n c:=by
  intro u hu;simp only [List.mem_cons,List.not_mem_nil,or_false] at hu
  rcases hu with rfl | rfl <;> exact ⟨_,_,_,rfl⟩
 refine ⟨_,_,rfl,J8o HCL.out K2.out (fun u hu b e=>?_) ho9,J9a HPK.out K2.out (fun u hu b e=>?_) ho9,Below.trans HX2.out (hl9 _ hgl)⟩
 . obtain ⟨_,_,_,rfl⟩:=hne u hu; cases e
 . obtain ⟨_,_,_,rfl⟩:=hne u hu; cases e
end Go.Proofs
namespace Go.Proofs
open Go.RowKit Go.Tw Go.Flow
attribute [local go_sem] Oper.semAt_some
attribute [local go_sem ↓] X5t
theorem J5w (w:World) (v u:Value) (s:Q0b) (p:List Rul) (hv:Q0h w v s) (hu:Q1c w u p) (hS:Q0y s) (hp:Q2g s.hist p = 0) :
    Calls Tryz.prog 30 #[v,u] w fun e w'=>∃ x,e = .returned x /\ Q0d w' x (Q3r s p) /\ Ext w w':=by
 obtain ⟨i0,hi,hz0,hz1,hz2⟩:=info_parts Tryz.info3;have h8:=hS.some.2;have HPL:Hid (∀ (w:World) (v u:Value) (i:Nat),i < s.members.length -> Q0h w v s -> Q1c w u p -> Calls Tryz.prog 60 #[v,u,.int .i64 (i:Int)] w fun e w'=>∃ x y,e = .returned (.agg #[x,y]) /\ Q0x w' x (Q0o p (Q0c s.members i)) /\ Q0d w' y ((Q1l s i).Q3e (Q0o p (Q0c s.members i))) /\ Ext w w'):=Lib.hid (fun w v u i h h1 h2=>J8q w v u s p i h1 h2 hS hp h);obtain ⟨a,b,rfl,h2⟩:=hv;obtain ⟨rv,rfl,hr⟩:=hu;obtain ⟨A,capa,rfl,-,-,-⟩:=h2.ships.opened;obtain ⟨B,capb,rfl,-,-,-⟩:=h2.members.opened;obtain ⟨R,capr,rfl,-,-,-⟩:=hr.opened;have H2:=Lib.hid h2;have HR:=Lib.hid hr;clear h2 hr hS hp;go_enter Tryz.func30,Tryz.ntmps30;go_wp2_with fail;change Code.wp _ _ _ _ ((w.alloc (.cells #[.int .i64 s.limit,.slice A s.ships.length capa,.slice B s.members.length capb] 25)).alloc (.cells #[.slice R p.length capr] 47));obtain ⟨W,hWW,k0,k1,HXW,eW⟩:=Q4e w 25 #[.int .i64 s.limit,.slice A s.ships.length capa,.slice B s.members.length capb] 47 #[.slice R p.length capr];rw [hWW];clear hWW;have K0:=Lib.hid k0;have K1:=Lib.hid k1;obtain ⟨gs,hgs⟩:∃ x,w.heap.size = x:=⟨_,rfl⟩;rw [hgs] at K0 K1 eW ⊢;clear k0 k1
 go_loopw [5,6] (fun o i wr=>∃ (k:Nat),k <= s.members.length /\ i = .int .i64 k /\ Q0t wr W.heap.size 3 (.int .i64) o (Q6v s p k) /\ Ext W wr) (fun _ i _=>s.members.length - (intOf i).toNat)
 case atStart=>exact ⟨0,Nat.zero_le _,rfl,Q0t.nil _ _ _ _,Ext.refl _⟩
 case round =>
  obtain ⟨k,hk,rfl,hown,hxr⟩:=hrel;have c2:=(K0.out.ext hxr).cell 2;simp only [Go.Tw.gA,Go.Tw.gB,Go.Tw.gC] at c2;have HXR:=Lib.hid hxr;have HOW:=Lib.hid hown;clear hxr hown
  by_cases hlt:k < s.members.length
  . have hkI:(k:Int) < s.members.length:=by omega
    have hsuc:=Y7y s p k;have hkd:Z8c s p k = Z3x s.limit ((Q1l s k).Q3e (Q0o p (Q0c s.members k))):=rfl;have HPK:=Lib.hid (fun w v u h1 h2=>HPL.out w v u k hlt h1 h2);obtain ⟨pk,hpk⟩:∃ x,(Q1l s k).Q3e (Q0o p (Q0c s.members k)) = x:=⟨_,rfl⟩;rw [hpk] at hkd HPK;obtain ⟨q,hq⟩:∃ x,Z3x s.limit pk = x:=⟨_,rfl⟩;rw [hkd,hq] at hsuc;have HQ:=Lib.hid hq;have HSUC:=Lib.hid hsuc;have hdr:=(Ext.refl wr).drew;clear hsuc hkd hpk hq
    go_light
    go_wp2;refine Flow.Q1h [.w,.w,.w,.p,.w,.p,.w] [0,1,2,3,4,5,6] [[],[],[],[],[1,2,3],[4],[0,4,5]]
     [.c 0 (.agg #[.int .i64 s.limit,.slice A s.ships.length capa,.slice B s.members.length capb]),.c 1 (.agg #[.int .i64 s.limit,.slice A s.ships.length capa,.slice B s.members.length capb]),.c 2 (.agg #[.slice R p.length capr]),.c 3 (.int .i64 (k:Int)),⟨fun v wz=>(fun v w'=>∃ x y,v 4 = .agg #[x,y] /\ Q0d w' y pk) v wz,by rintro v a b hx ⟨x,y,h1,h2⟩; exact ⟨x,y,h1,h2.ext hx⟩⟩,⟨fun v wz=>(fun v w'=>Q0d w' (v 5) pk) v wz,by intro v a b hx h; exact Q0d.ext h hx⟩,.c 6 (.bool (Z3x s.limit pk))]
     (by kernel_rfl) rfl (by kernel_rfl) ⟨?g0,?g1,?g2,?g3,?g4,?g5,?g6,trivial⟩ ?post
    case g0 | g1=>
     intro v w1 hx;intro bb hbb;intro K hK;have o1:bb.eval (.tmp 2) = .pointer (some ⟨gs,0,none⟩):=by rw [hbb]; dsimp only; (try simp (discharger:=decide) only [eval_put_ne]); rfl
     exact Q0l (.tmp 2) _ rfl Tryz.Y9z Tryz.Y2p o1 (K0.out.ext (HXR.out.trans (hdr.trans hx))) rfl (hK _ _ (Ext.refl _) rfl)
    case g2=>
     intro v w1 hx;intro bb hbb;intro K hK;have o1:bb.eval (.tmp 3) = .pointer (some ⟨gs + 1,0,none⟩):=by rw [hbb]; dsimp only; (try simp (discharger:=decide) only [eval_put_ne]); rfl
     exact Q0l (.tmp 3) _ rfl Tryz.J2n Tryz.J0b o1 (K1.out.ext (HXR.out.trans (hdr.trans hx))) rfl (hK _ _ (Ext.refl _) rfl)
    case g3=>
     intro v w1 hx;intro bb hbb;subst hbb;refine ⟨_,fun w=>?_,rfl⟩;go_simp
    case g4=>
     intro v w1 hx;(repeat intro (zq:v _ = _));intro bb hbb;subst hbb;intro K hK;go_simp;refine Q0e (HPK.out w1 _ _ ⟨_,_,rfl,H2.out.ext (HXW.out.trans (HXR.out.trans (hdr.trans hx)))⟩ ⟨_,rfl,HR.out.ext (HXW.out.trans (HXR.out.trans (hdr.trans hx)))⟩) ?_;rintro e w2 ⟨x,y,rfl,h1,h2,hx2⟩;exact ⟨_,rfl,hK _ _ hx2 ⟨x,y,rfl,h2⟩⟩
    case g5=>
     intro v w1 hx (q4:(fun v w'=>∃ x y,v 4 = .agg #[x,y] /\ Q0d w' y pk) v w1);intro bb hbb;obtain ⟨x,y,e4,h4⟩:=q4;have o1:bb.eval (.tmp 18) = .agg #[x,y]:=by rw [hbb]; dsimp only; (try simp (discharger:=decide) only [eval_put_ne]); rw [Q0a (by simp only [size_put]; exact (by decide:18 < 26))]; exact e4
     refine ⟨y,fun w=>?_,h4⟩;go_simp
    case g6=>
     intro v w1 hx (q0:v 0 = _) _ (q5:(fun v w'=>Q0d w' (v 5) pk) v w1);intro bb hbb;subst hbb;intro K hK;go_simp;refine Q0e (Z0o w1 _ _ s pk ⟨_,_,rfl,H2.out.ext (HXW.out.trans (HXR.out.trans (hdr.trans hx)))⟩ q5) ?_;rintro e w2 ⟨rfl,hx2⟩;exact ⟨_,rfl,hK _ _ hx2 rfl⟩
    case post =>
     intro v w1 hx;(iterate 4 intro (zq:v _ = _));intro (q4:(fun v w'=>∃ x y,v 4 = .agg #[x,y] /\ Q0d w' y pk) v w1) (q5:(fun v w'=>Q0d w' (v 5) pk) v w1);(iterate 1 intro (zq:v _ = _));simp only [Flow.All,Flow.acts,Act.put];go_simp;have hxx:=HXR.out.trans (hdr.trans hx);have hown:=HOW.out.below (hdr.trans hx);rw [HQ.out];have HXX:=Lib.hid hxx;clear hx hdr q4 q5;(repeat clear zq);obtain ⟨w3,rfl⟩:∃ X,X = w1:=⟨_,rfl⟩;cases q with
     | true =>
       have HST:Hid (Q6v s p (k + 1) = Q6v s p k ++ [(k:Int)]):=Lib.hid (by rw [HSUC.out,if_pos (by trivial)])
       have hll:(Q6v s p k).length <= 4096:=by have:=Y0f s p k; omega
       have HOW3:=Lib.hid hown;have hx3:=HXX.out;clear hxx;go_wp2_with (at_builtin; refine wpList_append_own _ rfl _ _ 22 rfl (W.heap.size) 3 i0 (.int .i64 0) 1 8 Tryz.underlying22 hi hz0 hz1 hz2 rfl (by decide) _ _ _ rfl (World.ownsRow.alloc hown _) ⟨w3.heap.size,0,none⟩ 1 1 [.int .i64 (k:Int)] rfl rfl ?_ ?_ ?_ ?_ ?_ ?_; exact Q4b _ _ _; (focus (simp [Value.oneCell'])); (focus (unfold maxLen; omega)); (focus omega); (focus (have:=hx3.size; simp at this ⊢; omega)); intro v' w1 hown' hgrow _)
       have hx':=Q2l hx3 HOW3.out (Nat.le_refl _) hgrow;go_roundw
       case rel=>exact ⟨k + 1,by omega,by go_num,by rw [HST.out]; exact Q0t.snoc hown',hx'⟩
       case measure=>simp [intOf]; omega
     | false =>
       have HST:Hid (Q6v s p (k + 1) = Q6v s p k):=Lib.hid (by rw [HSUC.out]; simp)
       have HOW3:=Lib.hid hown;clear hown hxx;go_wp2;go_roundw
       case rel=>exact ⟨k + 1,by omega,by go_num,by rw [HST.out]; exact HOW3.out,HXX.out⟩
       case measure=>simp [intOf]; omega
  . have hkI:¬ (k:Int) < s.members.length:=by omega
    have hke:k = s.members.length:=by omega
    subst hke;go_wp2;go_ret;exact ⟨_,rfl,by rw [<- Z2l]; exact HOW.out.ints (by have:=Y0f s p s.members.length; omega),HXW.out.trans HXR.out⟩
end Go.Proofs
