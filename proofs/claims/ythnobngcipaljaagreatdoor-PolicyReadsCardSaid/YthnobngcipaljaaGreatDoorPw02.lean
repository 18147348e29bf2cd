/- Part of the proof of the law PolicyReads. -/
import Derived.Test.YthnobngcipaljaaGreatDoorPp35
import Derived.Test.YthnobngcipaljaaGreatDoorPw01
import Derived.HandedShaped
import Derived.Shelf.Vars
set_option maxRecDepth 1000000
set_option maxHeartbeats 64000000
set_option linter.unusedVariables false
set_option linter.unusedSimpArgs false
set_option linter.constructorNameAsVariable false
open Go.Lib (hid)
namespace Go.Proofs
open Go.RowKit Go.Tw Go.Flow
theorem Tryz.info22:(Tryz.prog.info? 22).map (fun i=>(i.zero,i.size,i.bytes))=some (some (.slice none 0 0),1,24):=by kernel_rfl
theorem RL.insert {w:World} {vs:List Value} {ll:List (List Int)} {v:Value} {l:List Int} {n:Nat} (h:RL w vs ll) (hv:Q0q w 0 3 (.int .i64) v l) (hn:n <= ll.length):RL w (vs.take n ++ [v] ++ vs.drop n) (ll.take n ++ [l] ++ ll.drop n):=by
 obtain ⟨h1,h2⟩:=h;refine ⟨by simp [h1],fun i hi=>?_⟩
 have hlen:(ll.take n ++ [l] ++ ll.drop n).length=ll.length + 1:=by simp; omega
 rw [hlen] at hi;rw [J5c v undef n vs i (by omega),J5c l [] n ll i hn]
 by_cases h3:i < n
 . rw [if_pos h3,if_pos h3]; exact h2 i (by omega)
 . rw [if_neg h3,if_neg h3]
   by_cases h4:i=n
   . rw [if_pos h4,if_pos h4]; exact hv
   . rw [if_neg h4,if_neg h4]; exact h2 (i - 1) (by omega)
theorem J9e {α:Type} (a b:List α) (d:α) (j:Nat):(a ++ b).getD j d=if j < a.length then a.getD j d else b.getD (j - a.length) d:=by
 by_cases h:j < a.length
 . rw [if_pos h]; simp [List.getElem?_append_left h]
 . rw [if_neg h]; simp [List.getElem?_append_right (show a.length <= j by omega)]
theorem RL.app {w:World} {vs us:List Value} {ll mm:List (List Int)} (h:RL w vs ll) (k:RL w us mm):RL w (vs ++ us) (ll ++ mm):=by
 refine ⟨by simp [h.1,k.1],fun j hj=>?_⟩
 rw [J9e,J9e,h.1];rw [List.length_append] at hj
 by_cases h3:j < ll.length
 . rw [if_pos h3,if_pos h3]; exact h.2 j h3
 . rw [if_neg h3,if_neg h3]; exact k.2 _ (by omega)
theorem J6a {K:Value -> World -> Prop} {o:Oper} {a:Act} {w:World} (s x:Operand) (ho:o.op=.call { callee:=.builtin .append,args:=#[s,x],argTypes:=#[72,72] })
    {B:Nat} {v u:Value} {L M:List (List Int)} (hs:a.eval s=v) (h1:LL w B v L) (hx:a.eval x=u) (h2:LL w B u M) (hL:L.length <= 2000) (hM:M.length <= 2000) (hB:B <= w.heap.size)
    (hK:∀ v' w',LL w' B v' (L ++ M) -> Below B w w' -> K v' w'):gives Tryz.prog K ((execOp a.eval o).run Tryz.prog w):=by
 obtain ⟨i0,hi,hz0,hz1,hz2⟩:=info_parts Tryz.info22;obtain ⟨vs,o1,m1⟩:=h1;obtain ⟨us,o2,m2⟩:=h2;have l1:=m1.1;have l2:=m2.1;exact Q5d s x 72 ho B 22 i0 (.slice none 0 0) 24 Tryz.underlying72 hi hz0 hz1 hz2 rfl idV v u vs us hs o1 hx (Y7q o2) m2.one (by omega) (by decide) hB fun v' w' hown hg=>hK _ _ ⟨vs ++ us,hown,(m1.grown o1 (by decide) hg).app (m2.grown o1 (by decide) hg)⟩ (below_grown o1 hg (Nat.le_refl _) hB)
theorem J9m {w:World} {b o n c:Nat} {l:List Int} (h:Q0d w (.slice (some ⟨b,o,none⟩) n c) l) (hn:l.length=n):∀ j u,(l.map (Value.int .i64))[j]?=some u -> w.cell? ((⟨b,o,none⟩:Addr).add j)=some u:=by
 subst hn;obtain ⟨A,cap,hv,hl,hcap,hc⟩:=h.opened;cases hv;intro j u hj;rw [List.getElem?_map] at hj;obtain ⟨y,hy,rfl⟩:=Option.map_eq_some_iff.1 hj;obtain ⟨hjl,rfl⟩:=List.getElem?_eq_some_iff.1 hy;obtain ⟨b',off',he,hcell⟩:=hc j hjl;cases he;rw [addr_add,hcell,Q4s hjl]
theorem J8a {h:List Int} {row:List (List Int)} {n:Nat} (hn:n=Q2x h row row.length) (h0:n=0 ∨ row.getD (n - 1) [] ≠ h):Q9j h row=row.take n ++ [h] ++ row.drop n:=by
 unfold Q9j;simp only [<- hn];rw [if_neg];rintro ⟨h1,h2⟩
 rcases h0 with h0 | h0
 . omega
 . exact h0 h2
theorem K0z {h:List Int} {row:List (List Int)} {n:Nat} (hn:n=Q2x h row row.length) (h0:0 < n) (he:row.getD (n - 1) []=h):Q9j h row=row:=by
 unfold Q9j;simp only [<- hn];rw [if_pos ⟨h0,he⟩]
theorem J9i {s:Q0b} {t i:Nat} (hi:i <= s.members.length) (h:∀ k,k < s.members.length -> t + 1 <= (Q0c s.members k).length):∀ j,j < (s.X0s t i).length -> ((s.X0s t i).getD j []).length=t + 1:=by
 intro j hj;rw [Q0v _ hj];obtain ⟨k,hk,he⟩:=(Q0b.X4u t _ i).1 (List.getElem_mem hj);rw [he,List.length_take];have:=h k (by omega)
 omega
theorem K1n {s:Q0b} (hS:Q1b s):0 < s.hist.length:=by
 refine List.length_pos_of_mem (a:=(Q0c s.members 0).take (0 + 1)) ?_;exact (Q0b.Q4n _ _).2 ⟨0,hS.tides.1,0,hS.some.1,rfl⟩
theorem J8o {α:Type} {w:World} {base base' k:Nat} {e:TypeId} {enc:α -> List Value} {v:Value} {l:List α} (h:Q0z w base e k enc v l) (hb:base' <= base):Q0z w base' e k enc v l:=by
 obtain ⟨h1,h2⟩:=h;refine ⟨h1,?_⟩
 rcases h2 with h2 | ⟨g,cap,cur,hv,hbg,r⟩
 . exact .inl h2
 . exact .inr ⟨g,cap,cur,hv,Nat.le_trans hb hbg,r⟩
theorem J7x (w:World) (a:Option Addr) (n c:Nat) (b:Bool):(Instr.build 115 #[(0,.slice a n c),(1,.bool b)]).run Tryz.prog w=.ok (.agg #[.slice a n c,.bool b]) w:=by kernel_rfl
theorem K0h (w:World) (a:Option Addr) (n c:Nat) (b:Bool):(Instr.buildSlice 45 1 #[(0,.agg #[.slice a n c,.bool b])]).run Tryz.prog w=.ok (.slice (some ⟨w.heap.size,0,none⟩) 1 1) (w.alloc (.cells #[.slice a n c,.bool b] 115)):=by kernel_rfl
theorem Tryz.K2k (w:World):(sizeOf 45).run Tryz.prog w=.ok 1 w:=by kernel_rfl
end Go.Proofs
namespace Go.Proofs
open Go.RowKit Go.Tw Go.Flow
attribute [local go_sem] Oper.semAt_some
def J2w (w:World) (s:ByteArray) (e:Ending) (w':World):Prop:=∃ X c l,e=.returned (.tuple #[.agg #[X,.bool c],.bool (J2m (parts 32 (dat s))).isSome]) /\ Q0q w' w.heap.size 3 (.int .i64) X l /\ l.length <= 4096 /\ (∀ q,J2m (parts 32 (dat s))=some q -> q=⟨l,c⟩) /\ Ext w w'
theorem J2w.no {w w':World} {s:ByteArray} {X:Value} {c:Bool} {l:List Int} (h:J2m (parts 32 (dat s))=none) (ho:Q0q w' w.heap.size 3 (.int .i64) X l) (hl:l.length <= 4096) (hx:Ext w w'):J2w w s (.returned (.tuple #[.agg #[X,.bool c],.bool false])) w' :=
 ⟨X,c,l,by rw [h]; rfl,ho,hl,(fun q hq=>by rw [h] at hq; cases hq),hx⟩
theorem J2w.yes {w w':World} {s:ByteArray} {X:Value} {c:Bool} {l:List Int} (h:J2m (parts 32 (dat s))=some ⟨l,c⟩) (ho:Q0q w' w.heap.size 3 (.int .i64) X l) (hl:l.length <= 4096) (hx:Ext w w'):J2w w s (.returned (.tuple #[.agg #[X,.bool c],.bool true])) w' :=
 ⟨X,c,l,by rw [h]; rfl,ho,hl,(fun q hq=>by rw [h] at hq; cases hq; rfl),hx⟩
def wordsOf (s:ByteArray):List ByteArray:=J2x 32 s
def wordAt (W:List ByteArray) (k:Nat):ByteArray:=W.getD k ⟨#[]⟩
theorem J8p {W:List ByteArray} {k:Nat} (h:k < W.length):W[k]=wordAt W k:=by
 unfold wordAt; rw [List.getD_eq_getElem?_getD,List.getElem?_eq_getElem h]; rfl
structure Line (s:ByteArray) (W:List ByteArray) (N:Nat):Prop where
 len:W.length=N + 1
 small:N <= s.size
 read:J2m (parts 32 (dat s))=(J7e ((W.map dat).take N)).bind fun a=>(endOf (dat (wordAt W N))).map fun c=>⟨a,c⟩
theorem K1y (s:ByteArray):∃ N,Line s (wordsOf s) N:=by
 obtain ⟨x,r,h⟩:=J8h 32 s;have hl:(wordsOf s).length=r.length + 1:=by unfold wordsOf; rw [h]; rfl
 refine ⟨r.length,hl,?_,?_⟩
 . have h1:=J7h 32 (dat s)
   rw [<- J7q,List.length_map,J4u] at h1;have:(J2x 32 s).length=r.length + 1:=hl;omega
 . have hd:(wordsOf s).map dat=parts 32 (dat s):=J7q 32 s
   rw [<- hd,J9z (N:=r.length) (l:=(wordsOf s).map dat) (by rw [List.length_map]; exact hl),J3o]
   have h2:((wordsOf s).map dat).getD r.length []=dat (wordAt (wordsOf s) r.length):=by
    rw [<- J8p (by omega),List.getD_eq_getElem?_getD,List.getElem?_map,List.getElem?_eq_getElem (by omega)]; rfl
   have h3:(((wordsOf s).map dat).take r.length ++ [dat (wordAt (wordsOf s) r.length)]).take r.length=((wordsOf s).map dat).take r.length:=by
    rw [List.take_append_of_le_length (by rw [List.length_take,List.length_map]; omega),List.take_take,Nat.min_self]
   rw [h2,h3]
theorem Line.K2v {s:ByteArray} {W:List ByteArray} {N:Nat} (h:Line s W N) (he:endOf (dat (wordAt W N))=none):J2m (parts 32 (dat s))=none:=by
 rw [h.read,he]; cases J7e ((W.map dat).take N) <;> rfl
theorem K2i {W:List ByteArray} {k:Nat} (h:k < W.length):J7e ((W.map dat).take (k + 1))=(J7e ((W.map dat).take k)).bind fun a=>(J2y (dat (wordAt W k))).map fun d=>a ++ [d]:=by
 rw [List.take_succ_eq_append_getElem (by rw [List.length_map]; exact h),J7o,List.getElem_map,J8p h]
theorem K0t {s:ByteArray} (h:s=⟨#[99,108,111,115,101]⟩):endOf (dat s)=some true:=by rw [h]; rfl
theorem K0y {s:ByteArray} (h:s=⟨#[111,112,101,110]⟩):endOf (dat s)=some false:=by rw [h]; rfl
theorem K0u {s:ByteArray} (h1:¬ s=⟨#[99,108,111,115,101]⟩) (h2:¬ s=⟨#[111,112,101,110]⟩):endOf (dat s)=none:=by
 unfold endOf;rw [if_neg (fun e=>h1 (J8i (e.trans rfl))),if_neg (fun e=>h2 (J8i (e.trans rfl)))]
def J5r:ByteArray:=⟨#[99,108,111,115,101]⟩
def J8e:ByteArray:=⟨#[111,112,101,110]⟩
theorem J6s:J5r.toList=[99,108,111,115,101]:=by simp [J5r,go_sem]
theorem open_list:J8e.toList=[111,112,101,110]:=by simp [J8e,go_sem]
end Go.Proofs
namespace Go.Proofs
open Go.RowKit Go.Tw Go.Flow
attribute [local go_sem] Oper.semAt_some
theorem J2o {P:Program} {fn:Func} {p q r:Tmp} {T:TypeId} (h:fn.results=#[.cell p T,.tmp q,.tmp r]) {tmps:Array Value} {w:World} {g:Nat} (ht:tmps.getD p undef=.pointer (some ⟨g,0,none⟩)) {BT:TypeId} {cs:Array Value} (hb:Blk w g BT cs)
    (hA:∀ w,(isAgg T).run P w=.ok true w) (hS:∀ w,(sizeOf T).run P w=.ok cs.size w) {u v:Value} (hq:tmps.getD q undef=u) (hr:tmps.getD r undef=v):(results fn tmps).run P w=.ok (.tuple #[.agg cs,u,v]) w:=by
 unfold results;rw [h];simp only [List.mapM_toArray,List.mapM_cons,List.mapM_nil,Sem.run_bind,Sem.run_pure,ht,hq,hr,asAddr];simp [Q3a hb hA hS]
theorem J9w (w:World):Q3m w (.slice none 0 0) []:=X7y (Q0z.nil w 0 115 2 X8h) (by simp) (fun q hq=>by simp at hq) (fun q hq=>by simp at hq)
def J2q (w:World) (s:ByteArray) (e:Ending) (w':World):Prop:=∃ x,e=.returned (.tuple #[x,.int .i64 (J2n s).2.1,.int .i64 (J2n s).2.2]) /\ Q0w w' x (J2n s).1 /\ Ext w w'
theorem J2q.no {w w':World} {s:ByteArray} {i e:Int} (h:J2n s=([],i,e)) (hx:Ext w w'):J2q w s (.returned (.tuple #[.agg #[.slice none 0 0],.int .i64 i,.int .i64 e])) w' :=
 ⟨_,by rw [h],by rw [h]; exact ⟨_,rfl,J9w w'⟩,hx⟩
theorem J2q.yes {w w':World} {s:ByteArray} {p:List Rul} {a:Value} (h:J2n s=(p,0,0)) (ha:Q3m w' a p) (hx:Ext w w'):J2q w s (.returned (.tuple #[.agg #[a],.int .i64 0,.int .i64 0])) w' :=
 ⟨_,by rw [h],by rw [h]; exact ⟨_,rfl,ha⟩,hx⟩
end Go.Proofs
namespace Go.Proofs
open Go.RowKit Go.Tw Go.Flow
theorem Tryz.K0l (w:World):(sizeOf 157).run Tryz.prog w=.ok 1 w:=by kernel_rfl
theorem Tryz.J6x (w:World):(sizeOf 4).run Tryz.prog w=.ok 1 w:=by kernel_rfl
def Only (g:Nat) (w w':World):Prop:=(∀ n,n <= g -> Below n w w') /\ ∀ k,k ≠ g -> w'.heap[k]?=w.heap[k]?
theorem Only.trans {g:Nat} {a b c:World} (h:Only g a b) (k:Only g b c):Only g a c:=⟨fun n hn=>Below.trans (h.1 n hn) (k.1 n hn),fun x hx=>(k.2 x hx).trans (h.2 x hx)⟩
def J3h (w:World) (g s off m cap:Nat) (x:ByteArray) (b:Bool) (e:Ending) (w':World):Prop:=∃ d q,e=.returned (.int .i64 d) /\ Blk w' g 257 #[.slice (some ⟨s,off + 1,none⟩) (m - 1) (cap - 1),.bool (b || q)] /\ Only g w w' /\ ((q=false /\ J2y (dat x)=some d) ∨ (q=true /\ J2y (dat x)=none))
theorem J3h.no {w w2 w3:World} {g s off m cap:Nat} {x:ByteArray} {b:Bool} (h:J2y (dat x)=none) (hb:Blk w3 g 257 #[.slice (some ⟨s,off + 1,none⟩) (m - 1) (cap - 1),.bool true]) (ho:Only g w w2) (ho3:Only g w2 w3):J3h w g s off m cap x b (.returned (.int .i64 0)) w3 :=
 ⟨0,true,rfl,by rw [Bool.or_true]; exact hb,ho.trans ho3,.inr ⟨rfl,h⟩⟩
theorem J3h.yes {w w2:World} {g s off m cap:Nat} {x:ByteArray} {b:Bool} {d:Int} (h:J2y (dat x)=some d) (hb:Blk w2 g 257 #[.slice (some ⟨s,off + 1,none⟩) (m - 1) (cap - 1),.bool b]) (ho:Only g w w2):J3h w g s off m cap x b (.returned (.int .i64 d)) w2 :=
 ⟨d,false,rfl,by rw [Bool.or_false]; exact hb,ho,.inl ⟨rfl,h⟩⟩
theorem K0v (w:World) (g s off m cap:Nat) (x:ByteArray) (b:Bool) (hb:Blk w g 257 #[.slice (some ⟨s,off,none⟩) m cap,.bool b]) (hm:2 <= m) (hmc:m <= cap) (hcl:cap <= 100000) (hx:w.cell? ⟨s,off,none⟩=some (.string x)) :
    Calls Tryz.prog 183 #[.pointer (some ⟨g,0,none⟩)] w fun e w'=>J3h w g s off m cap x b e w':=by
 have c0:=hb.cell 0;simp only [Go.Tw.gA,Go.Tw.gB,Go.Tw.gC] at c0;have HB:=hid hb;have hn1:(0:Int) < m:=by omega
 have hn2:(1:Int) <= m:=by omega
 have hn3:(m:Int) <= cap:=by omega
 have hcap:¬ cap=1:=by omega
 clear hb hm hmc;go_enter Tryz.func183,Tryz.ntmps183;go_upto_region 3 with (refine X1z rfl _ _ 157 rfl Tryz.K0l (u:=.slice (some ⟨s,off + 1,none⟩) (m - 1) (cap - 1)) (g:=g) (k:=0) rfl rfl rfl rfl HB.out (by show 0 < 2; omega) ?_; intro w2 hb2 hl2 ho2; refine halted ?_)
 have HO:Hid (Only g w w2):=hid ⟨hl2,ho2⟩;have HB2:Hid (Blk w2 g 257 #[.slice (some ⟨s,off + 1,none⟩) (m - 1) (cap - 1),.bool b]):=hid hb2;clear hb2 hl2 ho2 c0 hx;unfold Q1i
 by_cases h1:x.size=1
 . have hs1:((x.size:Int) != 1)=false:=by simp [h1]
   have hp:0 < x.size:=by omega
   have hpI:(0:Int) < (x.size:Int):=by omega
   have HDG:=hid (K2m h1);obtain ⟨bt,hbt⟩:∃ z,(x[0]'hp).toNat=z:=⟨_,rfl⟩;rw [hbt] at HDG
   by_cases g0:bt < 48
   . have f0:((x[0]'hp).toNat:Int) < 48:=by omega
     have HNONE:Hid (J2y (dat x)=none):=hid (by rw [HDG.out,if_neg (by omega)])
     clear g0 hbt h1;go_wp2_with (refine X1z rfl _ _ 4 rfl Tryz.J6x (u:=.bool true) (g:=g) (k:=1) rfl rfl rfl rfl HB2.out (by show 1 < 2; omega) ?_; intro w3 hb3 hl3 ho3; refine halted ?_)
     have HF:=hid (J3h.no (b:=b) HNONE.out hb3 HO.out ⟨hl3,ho3⟩);clear hb3 hl3 ho3;unfold Q1i;go_wp2;go_ret;exact HF.out
   have f0:¬ ((x[0]'hp).toNat:Int) < 48:=by omega
   by_cases g1:57 < bt
   . have f1:(57:Int) < ((x[0]'hp).toNat:Int):=by omega
     have HNONE:Hid (J2y (dat x)=none):=hid (by rw [HDG.out,if_neg (by omega)])
     clear g0 g1 hbt h1;go_wp2_with (refine X1z rfl _ _ 4 rfl Tryz.J6x (u:=.bool true) (g:=g) (k:=1) rfl rfl rfl rfl HB2.out (by show 1 < 2; omega) ?_; intro w3 hb3 hl3 ho3; refine halted ?_)
     have HF:=hid (J3h.no (b:=b) HNONE.out hb3 HO.out ⟨hl3,ho3⟩);clear hb3 hl3 ho3;unfold Q1i;go_wp2;go_ret;exact HF.out
   have f1:¬ (57:Int) < ((x[0]'hp).toNat:Int):=by omega
   obtain ⟨d,hd⟩:∃ d:Int,(bt:Int) - 48=d:=⟨_,rfl⟩;have hu:IntKind.u8.wrap (((x[0]'hp).toNat:Int) - 48)=d:=by rw [IntKind.wrap_u8]; omega
   have hv:IntKind.i64.wrap d=d:=Q2v _ (by omega) (by omega)
   have HF:=hid (J3h.yes (b:=b) (by rw [HDG.out,if_pos (by omega),hd]) HB2.out HO.out)
   clear g0 g1 hbt h1 hd HDG;go_wp2;go_ret;exact HF.out
 . have hs1:((x.size:Int) != 1)=true:=by simp; omega
   have HNONE:=hid (K2s h1);clear h1;go_wp2_with (refine X1z rfl _ _ 4 rfl Tryz.J6x (u:=.bool true) (g:=g) (k:=1) rfl rfl rfl rfl HB2.out (by show 1 < 2; omega) ?_; intro w3 hb3 hl3 ho3; refine halted ?_)
   have HF:=hid (J3h.no (b:=b) HNONE.out hb3 HO.out ⟨hl3,ho3⟩);clear hb3 hl3 ho3;unfold Q1i;go_wp2;go_ret;exact HF.out
end Go.Proofs
namespace Go.Proofs
open Go.RowKit Go.Tw Go.Flow
attribute [local go_sem] Oper.semAt_some
theorem Tryz.J3c (w:World):(sizeOf 167).run Tryz.prog w=.ok 2 w:=by kernel_rfl
theorem Tryz.J6u (w:World):(isAgg 167).run Tryz.prog w=.ok true w:=by kernel_rfl
def K0x (w:World):Prop:=∃ m,w.cell? ⟨1,0,none⟩=some (.int .i64 m)
theorem K0x.ext {w w':World} (h:K0x w) (hx:Ext w w'):K0x w':=by obtain ⟨m,h⟩:=h; exact ⟨m,hx.cell h⟩
def J6k (x:ByteArray):Int:=if x=J8e then 0 else if x=J5r then 1 else -1
theorem J9f (w:World) (x:ByteArray) (hW:Words w) :
    Calls Tryz.prog 163 #[.slice (some ⟨0,0,none⟩) 2 2,.string x] w fun e w'=>e=.returned (.int .i64 (J6k x)) /\ w=w':=by
 obtain ⟨c0,c1⟩:=hW;have C0:=hid c0;have C1:=hid c1;clear c0 c1;have HE:Hid (J6k x=if x=J8e then 0 else if x=J5r then 1 else -1):=hid rfl
 go_enter Tryz.func163,Tryz.ntmps163;go_wp2
 go_loop [8] (fun i=>∃ k:Nat,k <= 2 /\ i=.int .i64 k /\ (0 < k -> x ≠ J8e) /\ (1 < k -> x ≠ J5r)) (fun i=>2 - (intOf i).toNat)
 case atStart=>exact ⟨0,by omega,rfl,fun h=>absurd h (by omega),fun h=>absurd h (by omega)⟩
 case round =>
  obtain ⟨k,hk,rfl,h0,h1⟩:=hrel;have H0:=hid h0;have H1:=hid h1;clear h0 h1
  rcases (by omega:k=0 ∨ k=1 ∨ k=2) with rfl | rfl | rfl
  . have c0:=C0.out
    by_cases hx:x=J8e
    . have hx1:=toList_eq open_list hx
      have HF:Hid (J6k x=0):=hid (by rw [HE.out,if_pos hx])
      clear hx;go_wp2;go_ret;exact ⟨by rw [HF.out]; rfl,rfl⟩
    . have hx1:=Z4b open_list hx
      have HX:=hid hx;clear hx;go_wp2;go_round
      case rel=>exact ⟨1,by omega,by go_num,fun _=>HX.out,fun h=>absurd h (by omega)⟩
      case measure=>simp [intOf]
  . have c1:=C1.out
    by_cases hx:x=J5r
    . have hx1:=toList_eq J6s hx
      have HF:Hid (J6k x=1):=hid (by rw [HE.out,if_neg (H0.out (by omega)),if_pos hx])
      clear hx;go_wp2;go_ret;exact ⟨by rw [HF.out]; rfl,rfl⟩
    . have hx1:=Z4b J6s hx
      have HX:=hid hx;clear hx;go_wp2;go_round
      case rel=>exact ⟨2,by omega,by go_num,fun _=>H0.out (by omega),fun _=>HX.out⟩
      case measure=>simp [intOf]
  . have HF:Hid (J6k x=-1):=hid (by rw [HE.out,if_neg (H0.out (by omega)),if_neg (H1.out (by omega))])
    go_wp2;go_ret;exact ⟨by rw [HF.out]; rfl,rfl⟩
theorem K0f (c:UInt8) (s:ByteArray):(J2x c s).length=Lib.countB s ⟨#[c]⟩ + 1:=by
 rw [<- J4o];exact Lib.splitB_all ⟨#[c]⟩ (Nat.le_refl 1) 0 _ s rfl
theorem J9u (w:World) (s:ByteArray) (c:UInt8) (hs:s.size <= 5000) (hm:K0x w) :
    Calls Tryz.prog 182 #[.string s,.string ⟨#[c]⟩] w fun e w'=>e=.returned (.slice (some ⟨w.heap.size,0,none⟩) (J2x c s).length (J2x c s).length) /\ w'=w.alloc (.cells ((J2x c s).map Value.string).toArray 9):=by
 obtain ⟨m,hm⟩:=hm;have h:=Tryz.strings_Split s ⟨#[c]⟩ m w (by omega) hm (Nat.le_refl 1)
 rw [J4o,<- K0f] at h;exact h
theorem K1o (x:ByteArray):(endOf (dat x)=none /\ J6k x=-1) ∨ (endOf (dat x)=some false /\ J6k x=0) ∨ (endOf (dat x)=some true /\ J6k x=1):=by
 unfold J6k
 by_cases h1:x=J8e
 . exact .inr (.inl ⟨K0y h1,if_pos h1⟩)
 . by_cases h2:x=J5r
   . exact .inr (.inr ⟨K0t h2,by rw [if_neg h1,if_pos h2]⟩)
   . exact .inl ⟨K0u h2 h1,by rw [if_neg h1,if_neg h2]⟩
def K1r (w:World) (g:Nat):Nat:=match w.cell? ⟨g,0,none⟩ with
 | some (.slice _ n _)=>n
 | _=>0
theorem J9b {w:World} {g n c:Nat} {a:Option Addr} {b:Value} {T:TypeId} (h:Blk w g T #[.slice a n c,b]):K1r w g=n:=by
 have:=h.cell 0;unfold K1r;rw [this]; rfl
def TkR (ws:List ByteArray) (k:Nat) (l:List Int) (b:Bool):Prop:=(b=false -> J7e ((ws.map dat).take k)=some l) /\ (b=true -> J7e ((ws.map dat).take k)=none)
theorem K1a {ws:List ByteArray} {k:Nat} {l:List Int} {b q:Bool} {d:Int} (h:TkR ws k l b) (hk:k < ws.length) (hq:(q=false /\ J2y (dat (wordAt ws k))=some d) ∨ (q=true /\ J2y (dat (wordAt ws k))=none)):TkR ws (k + 1) (l ++ [d]) (b || q):=by
 unfold TkR;rw [K2i hk]
 constructor
 . intro e
   rw [Bool.or_eq_false_iff] at e;rw [h.1 e.1]
   rcases hq with ⟨-,hq⟩ | ⟨h1,-⟩
   . rw [hq]; rfl
   . rw [h1] at e; cases e.2
 . intro e
   cases b with
   | true=>rw [h.2 rfl]; rfl
   | false =>
     rw [Bool.false_or] at e
     rcases hq with ⟨h1,-⟩ | ⟨-,hq⟩
     . rw [h1] at e; cases e
     . rw [hq]; cases J7e ((ws.map dat).take k) <;> rfl
end Go.Proofs
namespace Go.Proofs.YthnobngcipaljaaGreatDoor
open Go.ChangeShapes Go.WideShapes Go.ChangeAt Go.RowKit Go.Tw
def J9q:List (String × DataW Unit):=Rows.policyTextsRow.laid
theorem J6b {W:World} (h:laidMetH Tryz.prog J9q W):Words W:=by
 rw [MakeChecks.laidMetH_plain _ _ _ (by kernel_rfl)] at h
 obtain ⟨ps,⟨g0,t0,cs0,f0,p0,q0,hg0,ht0,hv0,hd0,⟨g1,t1,cs1,f1,p1,q1,hg1,ht1,hv1,hd1,⟨g2,t2,cs2,f2,p2,q2,hg2,ht2,hv2,hd2,⟨g3,t3,cs3,f3,p3,q3,hg3,ht3,hv3,hd3,⟨g4,t4,cs4,f4,p4,q4,hg4,ht4,hv4,hd4,_⟩,_⟩,_⟩,_⟩,_⟩,_,_⟩:=h;obtain rfl:=Option.some.inj ((show Tryz.prog.globalNamed (J9q[4]?.map (·.1)).get! = some 0 by kernel_rfl).symm.trans hg4)
 obtain ⟨t,ht⟩:∃ t,(Tryz.prog.globals[0]?).map (·.type)=some t:=⟨_,ht4⟩;obtain rfl:=Option.some.inj (ht.symm.trans ht4);have hty:(Tryz.prog.globals[0]?).map (·.type)=some 215:=by kernel_rfl
 obtain rfl:=Option.some.inj (hty.symm.trans ht);obtain ⟨xs,m,_,hx,hlen,hxl,hel⟩:=DataW.trod_array Tryz.underlying215 hd4;rw [Tryz.cS] at hel;have hm:xs.map (·.1)=[.lit (.string [111,112,101,110]),.lit (.string [99,108,111,115,101])]:=by
  have:=congrArg Prod.fst hx;simp only [Rows.laid_tideway_policy_words] at this;injection this with this;exact this.symm
 obtain ⟨x0,x1,rfl⟩:∃ a b,xs=[a,b]:=by
  match xs,hxl with
  | [a,b],_=>exact ⟨a,b,rfl⟩
 simp only [List.map_cons,List.map_nil,List.cons.injEq,and_true] at hm;obtain ⟨hx0,hx1⟩:=hm;obtain ⟨s0,hc0,rfl,_⟩:=DataW.trod_string Tryz.underlying9 (hel 0 (by decide))
 obtain ⟨s1,hc1,rfl,_⟩:=DataW.trod_string Tryz.underlying9 (hel 1 (by decide))
 have e0:s0=⟨#[111,112,101,110]⟩:=by
  simp only [DataW.lit.injEq,Lit.string.injEq] at hx0;obtain ⟨d⟩:=s0;obtain ⟨l⟩:=d;have h:l=[111,112,101,110]:=hx0;rw [h]
 have e1:s1=⟨#[99,108,111,115,101]⟩:=by
  simp only [DataW.lit.injEq,Lit.string.injEq] at hx1;obtain ⟨d⟩:=s1;obtain ⟨l⟩:=d;have h:l=[99,108,111,115,101]:=hx1;rw [h]
 subst e0 e1;obtain ⟨l4⟩:=cs4;have hl2:l4.length=2:=by
  have h:=hlen;rw [show Tryz.prog.cellsOf 215=2 from by kernel_rfl] at h
  exact h
 obtain ⟨c0,c1,rfl⟩:∃ a b,l4=[a,b]:=by
  match l4,hl2 with
  | [a,b],_=>exact ⟨a,b,rfl⟩
 simp at hc0 hc1;subst hc0 hc1;exact ⟨by rw [World.var?_cell hg4 hv4 0]; rfl,by rw [World.var?_cell hg4 hv4 1]; rfl⟩
theorem J7j {W:World} (h:W.ShapedOpen Tryz.prog):K0x W :=
 cell_of_shapedOpen_int (zero:=#[.int .i64 0]) (t:=3) h (of_decide_eq_true (by kernel_rfl)) (by kernel_rfl) rfl (by kernel_rfl) (by kernel_rfl) Tryz.underlying3
theorem K1z {H:Type} {enc:TypeId × Value -> H} {a:Assume} {C:Checked} {os:Os} {f:FuncId} {fn:Func} {s:ChangeSpec} {conds:List PathCond} {apart fresh handsOn again:Bool} {X:World -> Array Value -> Prop}
    (hX:∀ (w w':World) (args:Array Value),w.heap=w'.heap -> X w args -> X w' args) (own:ownKnob C.prog.godebug=none) (started:os.Started) (hi:C.prog.inits.idxOf? f=none) (hf:C.prog.funcs[f]?=some fn)
    (wit:∃ (w:World) (tape:Tape) (i:Input),w.os=os /\ (w.forCall tape i).Shaped C.prog /\ i.vars=[] /\ Input.okWide C.prog (w.forCall tape i) .any w.heap.size f i /\
     ((s.pre enc C.prog fn conds apart (w.forCall tape i).memory i.args /\ X (w.forCall tape i).memory i.args) /\ sizedMet enc C.prog fn (OpenSpec.ofChange s) apart (w.forCall tape i).memory i.args) /\ a.holds C.prog (lone (Frame.enter C.prog f i.args .normal) [] (w.forCall tape i)))
    (con:∀ (W:World) (base:Nat) (args:Array Value) (ds gs:List (DataW H)) (before:List MemPlace),(∀ (j:Nat) t v,fn.params[j]?=some t -> args[j]?=some v -> Value.okWide C.prog W .any base t v) ->
     DataW.Whole enc C.prog fn.params.toList s.vars apart W args.toList ds gs before -> conds.all (PathCond.test C.prog ⟨fn.params.toList,ds,s.plain.varTypes C.prog,gs⟩)=true ->
     (DataW.weightsEach C.prog (fn.params.toList ++ s.plain.varTypes C.prog) (ds ++ gs)).all (· <= reachBytes)=true -> X W args -> W.ShapedOpen C.prog ->
     a.holds C.prog (lone (Frame.enter C.prog f args .normal) [] W) -> Calls C.prog f args W fun e W'=>∃ v,e=.returned v /\ s.post enc C.prog fn apart fresh handsOn again W args v W') :
    ReturnsInHanded a C os f .any (fun w args=>(s.pre enc C.prog fn conds apart w args /\ X w args) /\ sizedMet enc C.prog fn (OpenSpec.ofChange s) apart w args) (s.post enc C.prog fn apart fresh handsOn again):=by
 refine returnsInHanded_of_calls own started hi wit fun w tape i _ hsh _ hok hpre hh=>?_;obtain ⟨_,_,_,fn',hf',_,_,_,_,hval⟩:=hok;obtain rfl:fn'=fn:=Option.some.inj (hf'.symm.trans hf);obtain ⟨⟨⟨ds,gs,bf,hw,hc⟩,hx⟩,hz⟩:=hpre;refine (con _ w.heap.size i.args ds gs bf hval (DataW.Whole.of_heap (w':=w.forCall tape i) (by rfl) hw) hc (hz.weights hw) (hX _ _ _ (by rfl) hx) hsh hh).mono fun e W' ⟨v,he,hp⟩=>?_
 subst he;exact ChangeSpec.post_blind hp
end Go.Proofs.YthnobngcipaljaaGreatDoor
namespace Go.Proofs
open Go.Tw
def J2s:List Bool -> List Bool -> Bool
 | [],_=>false
 | _ :: _,[]=>false
 | x :: a,y :: b=>if x != y then y else J2s a b
def J8c:List Bool -> Nat
 | []=>0
 | b :: l=>(if b then 2 ^ l.length else 0) + J8c l
theorem K0d:∀ l:List Bool,J8c l < 2 ^ l.length
 | []=>by simp [J8c]
 | b :: l=>by
   have:=K0d l;rw [List.length_cons,Nat.pow_succ,J8c];cases b <;> simp <;> omega
theorem J3u:∀ {a b:List Bool},a.length=b.length -> J2s a b=true -> J8c a < J8c b
 | [],[],_,h=>by cases h
 | x :: a,y :: b,hl,h=>by
   have hl':a.length=b.length:=by simpa using hl
   have ha:=K0d a;rw [J2s] at h;cases x <;> cases y
   . rw [J8c,J8c]; have:=J3u hl' h; simp; exact this
   . rw [J8c,J8c,<- hl']; simp; omega
   . cases h
   . rw [J8c,J8c,hl']; have:=J3u hl' h; simp; exact this
theorem K0o (n t:Nat):Q5u n (t + 1)=n.testBit t :: Q5u n t:=by
 unfold Q5u;rw [List.range_succ_eq_map,List.map_cons,List.map_map]
 congr 1
 apply List.map_congr_left
 intro i hi;show n.testBit (t + 1 - 1 - (i + 1))=n.testBit (t - 1 - i)
 congr 1
 omega
theorem J6y:∀ (t n:Nat),J8c (Q5u n t)=n % 2 ^ t
 | 0,n=>by simp [Q5u,J8c,Nat.mod_one]
 | t + 1,n=>by
   rw [K0o,J8c,J6y t n,X3w];have h1:n % 2 ^ (t + 1)=2 ^ t * (n / 2 ^ t % 2) + n % 2 ^ t:=by rw [Nat.pow_succ,Nat.mod_mul]; omega
   have h2:n.testBit t=decide (n / 2 ^ t % 2=1):=Nat.testBit_eq_decide_div_mod_eq;rw [h1,h2]
   rcases Nat.mod_two_eq_zero_or_one (n / 2 ^ t) with h | h <;> simp [h]
theorem J7z {s:Q0b} {i:Nat} {b:List Bool} (h:alone s i=some b) {c:List Bool} (hc:c.length=s.ships.length) (hk:(Q2e s i).keeps s.limit c=true) (hn:countB c=countB b):J2s c b=false:=by
 obtain ⟨h1,k,hkl,e,h2⟩:=(J4t _ _ _ _).1 b h;obtain ⟨n,hnl,e'⟩:=J3w c;rw [hc] at hnl e';rw [<- Bool.not_eq_true];intro he;have hv:=J3u (by rw [hc,e,X3w]) he
 rw [<- e',e,J6y,J6y,Nat.mod_eq_of_lt hnl,Nat.mod_eq_of_lt hkl] at hv;have:=(h2 n hnl (by rw [e']; exact hk)).2 (by rw [e']; exact hn.symm)
 omega
def J2r (n t:Nat):List Bool:=(List.range t).map fun i=>n.testBit i
theorem J2p (n t:Nat):(J2r n t).length=t:=by simp [J2r]
theorem K1q (n t:Nat):(J2r n t).reverse=Q5u n t:=by
 unfold J2r Q5u
 apply List.ext_getElem (by simp)
 intro i h1 h2;rw [List.getElem_reverse];simp
theorem J8s (l:List Bool):∃ n,n < 2 ^ l.length /\ J2r n l.length=l:=by
 obtain ⟨n,hn,h⟩:=J3w l.reverse;rw [List.length_reverse] at hn h;refine ⟨n,hn,?_⟩;rw [<- K1q] at h;exact List.reverse_inj.1 h
theorem J8x (n t j:Nat) (hj:j < t):(J2r n t).take (j + 1)=(J2r n t).take j ++ [n.testBit j]:=by
 rw [List.take_succ_eq_append_getElem (by rw [J2p]; exact hj)]
 simp [J2r]
theorem J3e (l:List Bool) (b:Bool):countB (l ++ [b])=countB l + if b then 1 else 0:=by
 unfold countB;rw [List.countP_append];cases b <;> simp
theorem J3f (l:List Bool):0 <= countB l:=by unfold countB; omega
theorem K1s {s:Q0b} (hS:Q1b s):∀ h ∈ s.hist,0 < h.length:=fun h hh=>by
 obtain ⟨t,ht,k,hk,rfl⟩:=(Q0b.Q4n _ _).1 hh;have:=hS.tides;have:=(hS.shaped k hk).1;rw [List.length_take]; omega
theorem J9l {s:Q0b} (hS:Q1b s) (n:Nat):Q6h (J2k s n)=0:=by
 have hl:(J2k s n).length=s.hist.length:=by simp [J2k]
 have h48:=Z5n hS;unfold Q6h;rw [if_neg (by omega),Go.Tw.Q1r]
 intro e he;obtain ⟨r,hr,rfl⟩:=List.mem_map.1 he;obtain ⟨i,hi,rfl⟩:=List.mem_map.1 hr;have hi':=List.mem_range.1 hi;have hm:s.hist.getD i [] ∈ s.hist:=by rw [List.getD_eq_getElem?_getD,List.getElem?_eq_getElem hi']; exact List.getElem_mem hi'
 unfold Q5c;have h1:=K1s hS _ hm;have h2:=Z2v hS _ hm;rw [if_neg (by show ¬ (s.hist.getD i []).length=0; omega),if_neg (by show ¬ 6 < (s.hist.getD i []).length; omega)]
 exact Go.Tw.Q4l.2 (X4g hS _ hm)
def J4m (s:Q0b) (p:List Rul) (i:Nat):Int:=if has (Q3r s p) i then Q0i s.members i * (countB (Q0m p (Q0c s.members i)) - Q9n s i) else 0
def J2u (s:Q0b) (p:List Rul) (k:Nat):Int:=((List.range k).map (J4m s p)).sum
theorem J3r (s:Q0b) (p:List Rul) (k:Nat):J2u s p (k + 1)=J2u s p k + J4m s p k:=by
 unfold J2u;rw [List.range_succ,List.map_append,List.sum_append];simp
theorem J8z {s:Q0b} {p:List Rul} {i:Nat} (hi:i < s.members.length):has (Q3r s p) i=(Q2e s i).keeps s.limit (Q0m p (Q2e s i).classes):=by
 rw [Bool.eq_iff_iff,Z8p];unfold Q3r
 constructor
 . intro h
   obtain ⟨j,hj,he⟩:=List.mem_map.1 h;have:j=i:=by have he:(j:Int)=(i:Int):=he; omega
   subst this;exact (List.mem_filter.1 hj).2
 . intro h
   exact List.mem_map.2 ⟨i,List.mem_filter.2 ⟨List.mem_range.2 hi,h⟩,rfl⟩
theorem J3m (f:Nat -> Int) (q:Nat -> Bool):∀ l:List Nat,((l.filter q).map f).sum=(l.map fun i=>if q i then f i else 0).sum
 | []=>rfl
 | a :: l=>by
   rw [List.filter_cons,List.map_cons,List.sum_cons,<- J3m f q l]
   split
   . simp
   . simp
theorem J6t (s:Q0b) (p:List Rul):J2u s p s.members.length=Y4l s p:=by
 unfold J2u Y4l;have e:(Q3r s p).map (fun i=>Q0i s.members i.toNat * (countB (Q0m p (Q0c s.members i.toNat)) - Q9n s i.toNat))=(((List.range s.members.length).filter fun i=>(Q2e s i).keeps s.limit (Q0m p (Q2e s i).classes)).map fun i=>Q0i s.members i * (countB (Q0m p (Q0c s.members i)) - Q9n s i)):=by
  unfold Q3r;rw [List.map_map]
  apply List.map_congr_left
  intro i _;show Q0i s.members (Int.ofNat i).toNat * _=_;rw [show (Int.ofNat i).toNat=i from rfl]
 rw [e,J3m]
 congr 1
 apply List.map_congr_left
 intro i hi;unfold J4m;rw [J8z (List.mem_range.1 hi)]
end Go.Proofs
namespace Go.Proofs
open Go.RowKit Go.Tw Go.Flow
theorem K0s {lim:Int} {l:List Int} {k:Nat} (hk:k < l.length):J9o lim (l.drop k)=(!(decide (lim < ix l k)) && J9o lim (l.drop (k + 1))):=by
 unfold J9o;rw [List.drop_eq_getElem_cons hk,List.any_cons,Bool.not_or,Q4s hk]
theorem J8w (w:World) (v:Value) (lim:Int) (l:List Int) (hv:Q0d w v l) :
    Calls Tryz.prog 68 #[.int .i64 lim,v] w fun e w'=>e=.returned (.bool (J9o lim l)) /\ w=w':=by
 obtain ⟨A,cap,rfl,hl,hcap,hc⟩:=hv.opened;clear hv;go_enter Tryz.func68,Tryz.ntmps68;go_wp2
 go_loop [9] (fun i=>∃ k:Nat,k <= l.length /\ i=.int .i64 k /\ J9o lim (l.drop k)=J9o lim l) (fun i=>l.length - (intOf i).toNat)
 case atStart=>exact ⟨0,Nat.zero_le _,rfl,rfl⟩
 case round =>
  obtain ⟨k,hk,rfl,hr⟩:=hrel;have HR:=hid hr;clear hr
  by_cases hlt:k < l.length
  . obtain ⟨b,off,rfl,hcell⟩:=hc k hlt
    have HD:=hid (K0s (lim:=lim) hlt);have hkI:(k:Int) < l.length:=by omega
    obtain ⟨y,hy⟩:∃ y,ix l k=y:=⟨_,rfl⟩;rw [hy] at hcell HD;clear hc hy
    by_cases hx:lim < y
    . have HF:Hid (J9o lim l=false):=hid (by rw [<- HR.out,HD.out,decide_eq_true hx]; rfl)
      go_wp2;go_ret;exact ⟨by rw [HF.out]; rfl,rfl⟩
    . have HF:Hid (J9o lim (l.drop (k + 1))=J9o lim l):=hid (by rw [<- HR.out,HD.out,decide_eq_false hx]; rfl)
      go_wp2;go_round
      case rel=>exact ⟨k + 1,by omega,by go_num,HF.out⟩
      case measure=>simp [intOf]; omega
  . have HF:Hid (J9o lim l=true):=hid (by rw [<- HR.out,List.drop_eq_nil_of_le (by omega)]; rfl)
    clear hc;go_wp2;go_ret;exact ⟨by rw [HF.out]; rfl,rfl⟩
theorem J8m (a:List Bool):J2s a []=false:=by cases a <;> rfl
theorem J7w (w:World) (u v:Value) (a b:List Bool) (hu:Q1q w u a) (hv:Q1q w v b) :
    Calls Tryz.prog 86 #[u,v] w fun e w'=>e=.returned (.bool (J2s a b)) /\ Ext w w':=by
 obtain ⟨A,capa,rfl,hla,-,hca⟩:=hu.opened;obtain ⟨B,capb,rfl,hlb,-,hcb⟩:=hv.opened;clear hu hv;go_enter Tryz.func86,Tryz.ntmps86;go_wp2
 go_loopw [8] (fun i wr=>∃ k:Nat,k <= a.length /\ i=.int .i64 k /\ J2s (a.drop k) (b.drop k)=J2s a b /\ Ext w wr) (fun i _=>a.length - (intOf i).toNat)
 case atStart=>exact ⟨0,Nat.zero_le _,rfl,rfl,Ext.refl _⟩
 case round =>
  obtain ⟨k,hk,rfl,hr,hx⟩:=hrel;have HR:=hid hr;have HX:=hid hx;clear hr
  by_cases hlt:k < a.length
  . have hkI:(k:Int) < a.length:=by omega
    by_cases hbt:k < b.length
    . have hbI:¬ (b.length:Int) <= (k:Int):=by omega
      have hbJ:(k:Int) < b.length:=by omega
      obtain ⟨b1,off1,rfl,_,hc1⟩:=hca k hlt;obtain ⟨b2,off2,rfl,_,hc2⟩:=hcb k hbt;replace hc1:=hx.cell hc1;replace hc2:=hx.cell hc2;have HD1:=hid (Y0u hlt);have HD2:=hid (Y0u hbt);clear hca hcb hx;cases hxa:bx a k with
      | false =>
        cases hxb:bx b k with
        | false =>
          rw [hxa] at hc1;rw [hxb] at hc2;have HXA:=hid hxa;have HXB:=hid hxb;clear hxa hxb;go_wp2
          go_quiet (fail)
          all_goals go_wp2
          go_roundw
          case rel=>exact ⟨k + 1,by omega,by go_num,by rw [<- HR.out,HD1.out,HD2.out,HXA.out,HXB.out]; rfl,HX.out.drewN _⟩
          case measure=>simp [intOf]; omega
        | true =>
          rw [hxa] at hc1;rw [hxb] at hc2;have HXA:=hid hxa;have HXB:=hid hxb;clear hxa hxb;go_wp2
          go_quiet (fail)
          all_goals go_wp2
          go_ret;exact ⟨Q0u (by rw [<- HR.out,HD1.out,HD2.out,HXA.out,HXB.out]; rfl),HX.out.drewN _⟩
      | true =>
        cases hxb:bx b k with
        | false =>
          rw [hxa] at hc1;rw [hxb] at hc2;have HXA:=hid hxa;have HXB:=hid hxb;clear hxa hxb;go_wp2
          go_quiet (fail)
          all_goals go_wp2
          go_ret;exact ⟨Q0u (by rw [<- HR.out,HD1.out,HD2.out,HXA.out,HXB.out]; rfl),HX.out.drewN _⟩
        | true =>
          rw [hxa] at hc1;rw [hxb] at hc2;have HXA:=hid hxa;have HXB:=hid hxb;clear hxa hxb;go_wp2
          go_quiet (fail)
          all_goals go_wp2
          go_roundw
          case rel=>exact ⟨k + 1,by omega,by go_num,by rw [<- HR.out,HD1.out,HD2.out,HXA.out,HXB.out]; rfl,HX.out.drewN _⟩
          case measure=>simp [intOf]; omega
    . have hbI:(b.length:Int) <= (k:Int):=by omega
      have HF:Hid (J2s a b=false):=hid (by rw [<- HR.out,show b.drop k=[] from List.drop_eq_nil_of_le (by omega)]; exact J8m _)
      clear hca hcb;go_wp2;go_ret;exact ⟨by rw [HF.out]; rfl,HX.out⟩
  . have hkI:¬ (k:Int) < a.length:=by omega
    have HF:Hid (J2s a b=false):=hid (by rw [<- HR.out,show a.drop k=[] from List.drop_eq_nil_of_le (by omega)]; rfl)
    clear hca hcb;go_wp2;go_ret;exact ⟨by rw [HF.out]; rfl,HX.out⟩
end Go.Proofs
namespace Go.Proofs
open Go.Tw
def J4p (b:List Bool) (T m:Nat):Bool:=(List.range m).any fun j=>decide (J2r j T=b)
theorem J7i (b:List Bool) (T m:Nat):J4p b T (m + 1)=(J4p b T m || decide (J2r m T=b)):=by
 unfold J4p;rw [List.range_succ,List.any_append];simp
theorem K1h (b:List Bool):J4p b b.length (2 ^ b.length)=true:=by
 obtain ⟨n,hn,h⟩:=J8s b;unfold J4p;rw [List.any_eq_true];exact ⟨n,List.mem_range.2 hn,decide_eq_true h⟩
def J9t (s:Q0b) (i m:Nat):Bool:=(List.range m).any fun j=>(Q2e s i).keeps s.limit (J2r j s.ships.length)
theorem J6n (s:Q0b) (i m:Nat):J9t s i (m + 1)=(J9t s i m || (Q2e s i).keeps s.limit (J2r m s.ships.length)):=by
 unfold J9t;rw [List.range_succ,List.any_append];simp
theorem K0n {s:Q0b} {i:Nat} {b:List Bool} (h:alone s i=some b):J9t s i (2 ^ s.ships.length)=true:=by
 obtain ⟨h1,h2,-⟩:=J3b h;obtain ⟨n,hn,e⟩:=J8s b;rw [h1] at hn e;unfold J9t;rw [List.any_eq_true];exact ⟨n,List.mem_range.2 hn,by rw [e]; exact h2⟩
theorem K1l {s:Q0b} {i:Nat} (h:alone s i=none) (m:Nat):(Q2e s i).keeps s.limit (J2r m s.ships.length)=false:=J6m h _ (J2p _ _)
def J4c (s:Q0b) (i m:Nat) (n:Int):Int:=if J9t s i m then n else 0
theorem J9g {s:Q0b} {i m:Nat} {n:Int} (h:(Q2e s i).keeps s.limit (J2r m s.ships.length)=false):J4c s i (m + 1) n=J4c s i m n:=by
 unfold J4c; rw [J6n,h,Bool.or_false]
theorem J9h {s:Q0b} {i m:Nat} {n:Int} (h:(Q2e s i).keeps s.limit (J2r m s.ships.length)=true):J4c s i (m + 1) n=n:=by
 unfold J4c; rw [J6n,h,Bool.or_true]; rfl
theorem J9n {s:Q0b} {i:Nat} {b:List Bool} (h:alone s i=some b) (n:Int):J4c s i (2 ^ s.ships.length) n=n:=by
 unfold J4c; rw [K0n h]; rfl
theorem J9c {s:Q0b} {p:List Rul} {k:Nat} (h:has (Q3r s p) k=false):J2u s p (k + 1)=J2u s p k:=by
 rw [J3r,J4m,h]; simp
theorem K2c {s:Q0b} {p:List Rul} {k:Nat} (h:has (Q3r s p) k=true):J2u s p (k + 1)=J2u s p k - Q0i s.members k * Q9n s k + Q0i s.members k * countB (Q0m p (Q0c s.members k)):=by
 rw [J3r,J4m,h];simp only [if_true];rw [Int.mul_sub]; omega
theorem J4g {s:Q0b} {p:List Rul} {k:Nat} (hS:Q1b s) (hk:k < s.members.length) (h:has (Q3r s p) k=true):∃ b,alone s k=some b /\ countB b <= countB (Q0m p (Q0c s.members k)):=by
 rw [J8z hk] at h;have hl:(Q0m p (Q2e s k).classes).length=s.ships.length:=by
  rw [Q2n];exact (hS.shaped k hk).1
 cases ha:alone s k with
 | none=>rw [J6m ha _ hl] at h; cases h
 | some b=>exact ⟨b,rfl,(J3b ha).2.2 _ hl h⟩
theorem K0i {s:Q0b} {p:List Rul} {k:Nat} (hS:Q1b s) (hk:k < s.members.length):0 <= J4m s p k /\ J4m s p k <= 6000:=by
 unfold J4m
 by_cases h:has (Q3r s p) k=true
 . rw [if_pos h]
   obtain ⟨b,hb,hle⟩:=J4g hS hk h;have hw:=hS.weights k hk;have hn:Q9n s k=countB b:=by unfold Q9n; rw [hb]
   have h1:=countB_le (Q0m p (Q0c s.members k));rw [Q2n,(hS.shaped k hk).1] at h1;have h2:=J3f b;have h3:=hS.tides.2;rw [hn]
   constructor
   . exact Int.mul_nonneg (by omega) (by omega)
   . have a1:Q0i s.members k * (countB (Q0m p (Q0c s.members k)) - countB b) <= 1000 * (countB (Q0m p (Q0c s.members k)) - countB b):=Int.mul_le_mul_of_nonneg_right hw.2 (by omega)
     omega
 . rw [if_neg h]; omega
theorem J5q {s:Q0b} {p:List Rul} (hS:Q1b s):∀ k,k <= s.members.length -> 0 <= J2u s p k /\ J2u s p k <= 6000 * k
 | 0,_=>by simp [J2u]
 | k + 1,h=>by
   have h1:=J5q (p:=p) hS k (by omega)
   have h2:=K0i (p:=p) hS (show k < s.members.length by omega)
   rw [J3r]; omega
theorem J7b {s:Q0b} {p:List Rul} (hS:Q1b s):0 <= Y4l s p:=by
 rw [<- J6t]; exact (J5q hS _ (Nat.le_refl _)).1
end Go.Proofs
