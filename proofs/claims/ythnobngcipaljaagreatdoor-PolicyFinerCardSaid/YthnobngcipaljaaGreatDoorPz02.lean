/- The law's own function given, stronger: the lists of the copy's members lie apart. -/
import Derived.Test.YthnobngcipaljaaGreatDoorPp35
import Derived.Test.YthnobngcipaljaaGreatDoorPz01
set_option maxRecDepth 1000000
set_option maxHeartbeats 64000000
set_option linter.unusedVariables false
set_option linter.unusedSimpArgs false
set_option linter.constructorNameAsVariable false
open Go.Lib (hid)
namespace Go.Proofs
open Go.RowKit Go.Tw Go.Flow
attribute [local go_sem] Oper.semAt_some
def ApM (q r:MV):Prop:=∀ b,(q.2.1.ownBlock=some b -> r.2.1.ownBlock ≠ some b /\ r.2.2.1.ownBlock ≠ some b /\ r.2.2.2.ownBlock ≠ some b) /\ (r.2.1.ownBlock=some b -> q.2.2.1.ownBlock ≠ some b /\ q.2.2.2.ownBlock ≠ some b)
def StQ (B:Nat) (uv:Value) (q:MV):Prop:=∀ b,(q.2.1.ownBlock=some b -> B <= b /\ q.2.2.1.ownBlock ≠ some b /\ q.2.2.2.ownBlock ≠ some b /\ uv.ownBlock ≠ some b) /\ (q.2.2.1.ownBlock=some b -> B <= b) /\ (q.2.2.2.ownBlock=some b -> B <= b)
structure StA (B:Nat) (uv:Value) (qs:List MV):Prop where
 u:∀ b,uv.ownBlock=some b -> B <= b
 q:∀ q ∈ qs,StQ B uv q
 p:qs.Pairwise ApM
theorem StA.snoc {w:World} {B:Nat} {uv:Value} {sh:List Int} {qs:List MV} (h:StA B uv qs) (hu:Q0q w 0 3 (.int .i64) uv sh) (hm:J0w w qs) (hB:B <= w.heap.size) (m:Mem) (x y z:Value)
    (hx:∀ b,x.ownBlock=some b -> w.heap.size <= b /\ y.ownBlock ≠ some b /\ z.ownBlock ≠ some b) (hy:∀ b,y.ownBlock=some b -> w.heap.size <= b) (hz:∀ b,z.ownBlock=some b -> w.heap.size <= b):StA B uv (qs ++ [(m,x,y,z)]):=by
 refine ⟨h.u,fun q hq=>?_,List.pairwise_append.2 ⟨h.p,List.pairwise_singleton _ _,fun q hq r hr=>?_⟩⟩
 . rcases List.mem_append.1 hq with hq | hq
   . exact h.q q hq
   . rw [List.mem_singleton.1 hq]
     refine fun b=>⟨fun hb=>?_,fun hb=>Nat.le_trans hB (hy b hb),fun hb=>Nat.le_trans hB (hz b hb)⟩;obtain ⟨h1,h2,h3⟩:=hx b hb;exact ⟨Nat.le_trans hB h1,h2,h3,fun hub=>by have:=(World.ownsRow.lt hu b hub).2; omega⟩
 . rw [List.mem_singleton.1 hr]
   have hq:=hm q hq;refine fun b=>⟨fun hb=>?_,fun hb=>?_⟩
   . have hlt:=(World.ownsRow.lt hq.c b hb).2
     exact ⟨fun h=>by have:=(hx b h).1; omega,fun h=>by have:=hy b h; omega,fun h=>by have:=hz b h; omega⟩
   . have hge:=(hx b hb).1
     exact ⟨fun h=>by have:=(World.ownsRow.lt hq.o b h).2; omega,fun h=>by have:=(World.ownsRow.lt hq.i b h).2; omega⟩
structure J3h (w:World) (B E:Nat) (uv xv:Value) (sh:List Int) (qs:List MV):Prop where
 u:Q0q w 0 3 (.int .i64) uv sh
 x:Q0z w B 69 5 Y4k xv qs
 m:J0w w qs
 s:StA B uv qs
 e:∀ b,(uv.ownBlock=some b -> b < E) /\ (xv.ownBlock=some b -> b < E) /\ ∀ q ∈ qs,(q.2.1.ownBlock=some b -> b < E) /\ (q.2.2.1.ownBlock=some b -> b < E) /\ (q.2.2.2.ownBlock=some b -> b < E)
theorem J3h.of {w:World} {B:Nat} {uv xv:Value} {sh:List Int} {qs:List MV} (u:Q0q w 0 3 (.int .i64) uv sh) (x:Q0z w B 69 5 Y4k xv qs) (m:J0w w qs) (s:StA B uv qs):J3h w B w.heap.size uv xv sh qs :=
 ⟨u,x,m,s,fun b=>⟨fun h=>(World.ownsRow.lt u b h).2,fun h=>(World.ownsRow.lt x b h).2,fun q hq=>⟨fun h=>(World.ownsRow.lt (m q hq).c b h).2,fun h=>(World.ownsRow.lt (m q hq).o b h).2,fun h=>(World.ownsRow.lt (m q hq).i b h).2⟩⟩⟩
theorem J3h.ext {w w':World} {B E:Nat} {uv xv:Value} {sh:List Int} {qs:List MV} (h:J3h w B E uv xv sh qs) (hx:Ext w w'):J3h w' B E uv xv sh qs:=⟨h.u.below hx,h.x.below hx,fun q hq=>(h.m q hq).ext hx,h.s,h.e⟩
theorem J2p {w w':World} {base size n:Nat} {e:TypeId} {v:Value} {xs:List Value} (h:w.ownsRow base e size v n xs) (ho:∀ b,v.ownBlock=some b -> w'.heap[b]?=w.heap[b]?):w'.ownsRow base e size v n xs:=by
 obtain ⟨h1,h2⟩:=h;refine ⟨h1,?_⟩
 rcases h2 with h2 | ⟨g,cap,cur,hv,hbb,hg,r⟩
 . exact .inl h2
 . refine .inr ⟨g,cap,cur,hv,hbb,?_,r⟩
   rw [ho g (by rw [hv]; rfl)]; exact hg
theorem J5u {w w':World} {base size n b:Nat} {e S:TypeId} {v:Value} {xs:List Value} {cs:Array Value} (h:w.ownsRow base e size v n xs) (hb:Blk w b S cs) (hT:S ≠ e) (ho:∀ k,k ≠ b -> w'.heap[k]?=w.heap[k]?):w'.ownsRow base e size v n xs:=by
 obtain ⟨h1,h2⟩:=h;refine ⟨h1,?_⟩
 rcases h2 with h2 | ⟨g,cap,cur,hv,hbb,hg,r⟩
 . exact .inl h2
 . refine .inr ⟨g,cap,cur,hv,hbb,?_,r⟩
   rw [ho g ?_]; exact hg;rintro rfl;unfold Blk at hb;rw [hb] at hg;injection hg with hg;injection hg with _ h3 _;exact hT h3
theorem J3h.same {w w':World} {B E:Nat} {uv xv:Value} {sh:List Int} {qs:List MV} (h:J3h w B E uv xv sh qs) (ho:∀ k,B <= k -> k < E -> w'.heap[k]?=w.heap[k]?):J3h w' B E uv xv sh qs :=
 ⟨J2p h.u (fun b hv=>ho b (h.s.u b hv) ((h.e b).1 hv)),J2p h.x (fun b hv=>ho b (World.ownsRow.lt h.x b hv).1 ((h.e b).2.1 hv)),
  fun q hq=>⟨J2p (h.m q hq).c (fun b hv=>ho b ((h.s.q q hq b).1 hv).1 (((h.e b).2.2 q hq).1 hv)),J2p (h.m q hq).o (fun b hv=>ho b ((h.s.q q hq b).2.1 hv) (((h.e b).2.2 q hq).2.1 hv)),J2p (h.m q hq).i (fun b hv=>ho b ((h.s.q q hq b).2.2 hv) (((h.e b).2.2 q hq).2.2 hv))⟩,h.s,h.e⟩
theorem J3h.ty {w w':World} {B E b:Nat} {S:TypeId} {cs:Array Value} {uv xv:Value} {sh:List Int} {qs:List MV} (h:J3h w B E uv xv sh qs) (hb:Blk w b S cs) (h1:S ≠ 3) (h2:S ≠ 69) (ho:∀ k,k ≠ b -> w'.heap[k]?=w.heap[k]?):J3h w' B E uv xv sh qs :=
 ⟨J5u h.u hb h1 ho,J5u h.x hb h2 ho,fun q hq=>⟨J5u (h.m q hq).c hb h1 ho,J5u (h.m q hq).o hb h1 ho,J5u (h.m q hq).i hb h1 ho⟩,h.s,h.e⟩
theorem J3h.at {w:World} {B E:Nat} {uv xv:Value} {sh:List Int} {qs:List MV} (h:J3h w B E uv xv sh qs) {i t:Nat} (hi:i < qs.length) (ht:t < qs[i].1.classes.length) :
    ∃ g c b d cs,xv=.slice (some ⟨g,0,none⟩) qs.length c /\ w.cell? ⟨g,i * 5 + 2,none⟩=some (.slice (some ⟨b,0,none⟩) qs[i].1.classes.length d) /\ B <= b /\ b < E /\ Blk w b 3 cs /\ t < cs.size /\
     ∀ (w':World) (z:Int),Blk w' b 3 (cs.setIfInBounds t (.int .i64 z)) -> (∀ k,k ≠ b -> B <= k -> k < E -> w'.heap[k]?=w.heap[k]?) -> J3h w' B E uv xv sh (qs.set i ({ qs[i].1 with classes:=qs[i].1.classes.set t z },qs[i].2)):=by
 obtain ⟨g,c,cur,hv,hB,hb,-,-,-,htk⟩:=J8a h.x (by omega)
 have hc:=J7u Y7t hb htk (i:=i) (j:=2) hi (by decide)
 have hmi:=h.m _ (List.getElem_mem hi)
 rcases hmi.c.2 with ⟨_,hn⟩ | ⟨b,d,cs,hvb,_,hbl,hcap,hmx,hsz,htt⟩
 . omega
 have hob:qs[i].2.1.ownBlock=some b:=by rw [hvb]; rfl
 have hst:=((h.s.q _ (List.getElem_mem hi)) b).1 hob;have hcs:t < cs.size:=by rw [hsz]; omega
 have hpw:=List.pairwise_iff_getElem.1 h.s.p;refine ⟨g,c,b,d,cs,hv,by rw [hc]; simp only [Y4k,List.getElem?_cons_succ,List.getElem?_cons_zero]; rw [hvb],hst.1,(((h.e b).2.2 _ (List.getElem_mem hi)).1 hob),hbl,hcs,fun w' z hb' ho=>?_⟩
 have henc:(qs.set i ({ qs[i].1 with classes:=qs[i].1.classes.set t z },qs[i].2)).flatMap Y4k=qs.flatMap Y4k:=by
  rw [List.flatMap_def,List.flatMap_def,List.map_set]
  congr 1
  apply List.ext_getElem (by simp)
  intro k h1 h2;rw [List.getElem_set]
  split
  . rename_i e; subst e; simp [Y4k]
  . rfl
 have hmem:∀ q ∈ qs.set i ({ qs[i].1 with classes:=qs[i].1.classes.set t z },qs[i].2),∃ k,∃ hk:k < qs.length,q.2=qs[k].2 /\ ((k=i /\ q.1={ qs[i].1 with classes:=qs[i].1.classes.set t z }) ∨ (k ≠ i /\ q.1=qs[k].1)):=by
  intro q hq;obtain ⟨k,hk,rfl⟩:=List.getElem_of_mem hq;have hk2:k < qs.length:=by simpa using hk
  refine ⟨k,hk2,?_⟩;rw [List.getElem_set]
  by_cases e:i=k
  . subst e; rw [if_pos rfl]; exact ⟨rfl,.inl ⟨rfl,rfl⟩⟩
  . rw [if_neg e]; exact ⟨rfl,.inr ⟨fun h=>e h.symm,rfl⟩⟩
 have kc:∀ {q:MV},q ∈ qs -> q.2.1.ownBlock ≠ some b -> ∀ b',q.2.1.ownBlock=some b' -> w'.heap[b']?=w.heap[b']?:=fun hq hne b' hv=>ho b' (fun e=>hne (e ▸ hv)) ((h.s.q _ hq b').1 hv).1 (((h.e b').2.2 _ hq).1 hv);have ko:∀ {q:MV},q ∈ qs -> q.2.2.1.ownBlock ≠ some b -> ∀ b',q.2.2.1.ownBlock=some b' -> w'.heap[b']?=w.heap[b']?:=fun hq hne b' hv=>ho b' (fun e=>hne (e ▸ hv)) ((h.s.q _ hq b').2.1 hv) (((h.e b').2.2 _ hq).2.1 hv);have ki:∀ {q:MV},q ∈ qs -> q.2.2.2.ownBlock ≠ some b -> ∀ b',q.2.2.2.ownBlock=some b' -> w'.heap[b']?=w.heap[b']?:=fun hq hne b' hv=>ho b' (fun e=>hne (e ▸ hv)) ((h.s.q _ hq b').2.2 hv) (((h.e b').2.2 _ hq).2.2 hv);refine ⟨J2p h.u (fun b' hv=>ho b' (fun e=>hst.2.2.2 (e ▸ hv)) (h.s.u b' hv) ((h.e b').1 hv)),?_,fun q hq=>?_,⟨h.s.u,fun q hq=>?_,?_⟩,fun k=>⟨(h.e k).1,(h.e k).2.1,fun q hq=>?_⟩⟩
 . have hxb:xv.ownBlock ≠ some b:=by
    intro hxb;have:g=b:=by rw [hv] at hxb; injection hxb
    subst this;unfold Blk at hb;rw [hb] at hbl;injection hbl with hbl;injection hbl with _ h3 _;exact absurd h3 (by decide)
   have hx2:=J2p h.x (w':=w') (fun b' hv=>ho b' (fun e=>hxb (e ▸ hv)) (World.ownsRow.lt h.x b' hv).1 ((h.e b').2.1 hv));unfold Q0z at hx2 ⊢;rw [henc,List.length_set];exact hx2
 . obtain ⟨k,hk,e2,hor⟩:=hmem q hq
   have hmk:=h.m _ (List.getElem_mem hk);have ho1:qs[k].2.2.1.ownBlock ≠ some b:=by
    rcases Nat.lt_trichotomy k i with hlt | he | hlt
    . exact ((hpw k i hk hi hlt) b).2 hob |>.1
    . subst he; exact hst.2.1
    . exact (((hpw i k hi hk hlt) b).1 hob).2.1
   have ho2:qs[k].2.2.2.ownBlock ≠ some b:=by
    rcases Nat.lt_trichotomy k i with hlt | he | hlt
    . exact ((hpw k i hk hi hlt) b).2 hob |>.2
    . subst he; exact hst.2.2.1
    . exact (((hpw i k hi hk hlt) b).1 hob).2.2
   rcases hor with ⟨rfl,e1⟩ | ⟨hne,e1⟩
   . refine ⟨?_,?_,?_⟩
     . rw [e1,e2]
       refine ⟨by simp,.inr ⟨b,d,_,by rw [hvb]; simp,Nat.zero_le _,hb',by simpa using hcap,hmx,by simpa using hsz,?_⟩⟩
       simp only [List.length_set,Array.toList_setIfInBounds,List.take_set,htt,List.map_set]
     . rw [e1,e2]; exact J2p hmk.o (ko (List.getElem_mem hk) ho1)
     . rw [e1,e2]; exact J2p hmk.i (ki (List.getElem_mem hk) ho2)
   . have hoc:qs[k].2.1.ownBlock ≠ some b:=by
      rcases Nat.lt_trichotomy k i with hlt | he | hlt
      . intro hkb; exact (((hpw k i hk hi hlt) b).1 hkb).1 hob
      . exact absurd he hne
      . exact (((hpw i k hi hk hlt) b).1 hob).1
     refine ⟨?_,?_,?_⟩
     . rw [e1,e2]; exact J2p hmk.c (kc (List.getElem_mem hk) hoc)
     . rw [e1,e2]; exact J2p hmk.o (ko (List.getElem_mem hk) ho1)
     . rw [e1,e2]; exact J2p hmk.i (ki (List.getElem_mem hk) ho2)
 . obtain ⟨k,hk,e2,-⟩:=hmem q hq
   have:=h.s.q _ (List.getElem_mem hk);unfold StQ at this ⊢;rw [e2]; exact this
 . rw [List.pairwise_iff_getElem]
   intro j k hj hk hjk;have hj2:j < qs.length:=by simpa using hj
   have hk2:k < qs.length:=by simpa using hk
   have e:∀ m (hm:m < qs.length) (hm2:m < (qs.set i ({ qs[i].1 with classes:=qs[i].1.classes.set t z },qs[i].2)).length),(qs.set i ({ qs[i].1 with classes:=qs[i].1.classes.set t z },qs[i].2))[m].2=qs[m].2:=by
    intro m hm hm2;rw [List.getElem_set]
    split
    . rename_i e; subst e; rfl
    . rfl
   have:=hpw j k hj2 hk2 hjk;unfold ApM at this ⊢;rw [e j hj2,e k hk2]; exact this
 . obtain ⟨k',hk,e2,-⟩:=hmem q hq
   rw [e2]; exact (h.e k).2.2 _ (List.getElem_mem hk)
theorem J3h.J6z {w:World} {B E:Nat} {uv xv:Value} {s:Q0b} {qs:List MV} (h:J3h w B E uv xv s.ships qs) (hm:qs.map (·.1)=s.members) (hs:Q3k s) (hn:∀ k,k < s.members.length -> Short (Q1h s.members k)):Q0h w (.agg #[.int .i64 s.limit,uv,xv]) s:=by
 have hl:qs.length=s.members.length:=by rw [<- hm,List.length_map]
 have hsm:∀ q ∈ qs,Short q.1.name /\ q.1.classes.length <= 1000 /\ q.1.outside.length <= 1000 /\ q.1.inflow.length <= 1000:=fun q hq=>by
  have hq2:q.1 ∈ s.members:=by rw [<- hm]; exact List.mem_map_of_mem hq
  obtain ⟨j,hj,he⟩:=List.getElem_of_mem hq2;have hsn:=hn j hj;obtain ⟨-,h1,h2,h3⟩:=hs.each j hj;unfold Q1h at hsn;unfold Q0c at h1;unfold Q0t at h2;unfold Q0y at h3;rw [Q0v _ hj,he] at hsn h1 h2 h3;exact ⟨hsn,by omega,by omega,by omega⟩
 have h7:=hs.ships;have h9:=hs.members;refine ⟨_,_,rfl,⟨h.u.ints (by omega),?_⟩⟩
 have h2:=Z3f h.x (by rw [hl]; omega) h.m hsm
 rw [hm] at h2;exact h2
theorem J5o (w:World) (v:Value) (s:Q0b) (hv:Q0h w v s) (hs:Q3k s) :
    Calls Tryz.prog 20 #[v] w fun e w'=>∃ uv xv qs,e=.returned (.agg #[.int .i64 s.limit,uv,xv]) /\ J3h w' w.heap.size w'.heap.size uv xv s.ships qs /\ qs.map (·.1)=s.members /\ Ext w w':=by
 obtain ⟨w0,hw0⟩:∃ z,z=w:=⟨w,rfl⟩;have HW0:Hid (w0.heap.size=w.heap.size):=hid (by rw [hw0])
 rw [show w.heap.size=w0.heap.size by rw [hw0]]
 clear hw0;obtain ⟨l0,li,lz0,lz1,lz2⟩:=info_parts Tryz.Z8y;obtain ⟨a,b,rfl,h2⟩:=hv;obtain ⟨A,capa,rfl,-,-,-⟩:=h2.ships.opened;obtain ⟨B,capb,rfl,-,-,hc⟩:=h2.members.opened;have H2:=hid h2;have HC:=hid hc;have HS:=hid hs;have hT7:=hs.ships;have hn9:=hs.members;obtain ⟨n,hn⟩:∃ n,s.members.length=n:=⟨_,rfl⟩;have HN:=hid hn;obtain ⟨T,hT⟩:∃ n,s.ships.length=n:=⟨_,rfl⟩;have HT:=hid hT;obtain ⟨lim,hlim⟩:∃ n,s.limit=n:=⟨_,rfl⟩;have HLIM:=hid hlim;have hi2:=h2.ships;rw [hT] at hi2 hT7;rw [hn] at HC hn9;rw [hn,hT,hlim];have HSH:=hid hi2;clear h2 hc hs hn hT hlim hi2;go_enter Tryz.func20,Tryz.ntmps20;go_wp2_with fail;obtain ⟨W,hWW,k0,k1,HXW,eW⟩:=Q4e w 25 #[.int .i64 lim,.slice A T capa,.slice B n capb] 34 #[.int .i64 0,.slice none 0 0,.slice none 0 0];rw [hWW];clear hWW;obtain ⟨gs,hgs⟩:∃ x,w.heap.size=x:=⟨_,rfl⟩;have HGS:=hid hgs;rw [hgs] at k0 k1 eW ⊢;have K0:=hid k0;have K1:=hid k1;clear k0 k1 hgs;have hdr:=(Ext.refl W).drew;refine Flow.Q4m [.p,.w,.p,.w,.w,.p,.w,.last] [0,1,2,3,4,5,6,7] [[],[0],[],[2],[2,3],[0,1,2,3,4],[],[0,1,2,3,4,5,6]] [7]
  [.c 0 (.pointer (some ⟨gs,0,none⟩)),.c 1 (.int .i64 lim),.c 2 (.pointer (some ⟨gs,1,none⟩)),.c 3 (.slice A T capa),⟨fun v wz=>(fun v w'=>Q0q w' w0.heap.size 3 (.int .i64) (v 4) s.ships) v wz,fun _ _ _ hx h=>Q0q.below h hx⟩,⟨fun v wz=>(fun v w'=>v 5=.agg #[.int .i64 lim,v 4,.slice none 0 0]) v wz,by intro _ _ _ _ h; exact h⟩,⟨fun v wz=>(fun v w'=>∃ g,v 6=.pointer (some ⟨g,0,none⟩) /\ Blk w' g 34 #[.int .i64 0,.slice none 0 0,.slice none 0 0] /\ W.heap.size <= g) v wz,by rintro v a b hx ⟨g,h1,h2,h3⟩; exact ⟨g,h1,h2.ext hx,h3⟩⟩,.none]
  [fun v w1 w'=>∃ g,v 6=.pointer (some ⟨g,0,none⟩) /\ Blk w1 g 34 #[.int .i64 0,.slice none 0 0,.slice none 0 0] /\ Blk w' g 34 #[.int .i64 lim,v 4,.slice none 0 0] /\ (∀ n,n <= g -> Below n w1 w') /\ (∀ k,k ≠ g -> w'.heap[k]?=w1.heap[k]?) /\ W.heap.size <= g /\ Q0q w1 w0.heap.size 3 (.int .i64) (v 4) s.ships] (by kernel_rfl) rfl (by kernel_rfl) ⟨?g0,?g1,?g2,?g3,?g4,?g5,?g6,?g7,trivial⟩ ?post
 case g0 | g2=>
  intro v w1 hx;intro bb hbb;subst hbb;refine ⟨_,fun w=>?_,rfl⟩;go_simp
 case g1 | g3=>
  intro v w1 hx;(repeat intro (zq:v _=_));intro bb hbb;subst hbb;have n0:w1.cell? ⟨gs,0,none⟩=some (.int .i64 lim):=(K0.out.ext (hdr.trans hx)).cell 0;have n1:w1.cell? ⟨gs,1,none⟩=some (.slice A T capa):=(K0.out.ext (hdr.trans hx)).cell 1;intro K hK;go_simp;exact hK _ _ (Ext.refl _) rfl
 case g4=>
  intro v w1 hx;(repeat intro (zq:v _=_));intro bb hbb;subst hbb;intro K hK;go_simp;refine Q0e (Q8m w1 _ _ (HSH.out.ext (HXW.out.trans (hdr.trans hx))) (by rw [HT.out]; omega)) ?_
  rintro e w2 ⟨u,rfl,hown,hx2⟩;exact ⟨_,rfl,hK _ _ hx2 (Q0q.weaken hown (by have h1:=(hdr.trans hx).size; have h2:=HXW.out.size; have h3:=HW0.out; omega))⟩
 case g5=>
  intro v w1 hx (q0:v 0=_) (q1:v 1=_) (q2:v 2=_) (q3:v 3=_) (q4:(fun v w'=>Q0q w' w0.heap.size 3 (.int .i64) (v 4) s.ships) v w1);intro bb hbb;obtain ⟨s9,c9,e9,_⟩:=Q0q.shape q4;have o1:bb.eval (.tmp 7)=.int .i64 lim:=by rw [hbb]; dsimp only; (try simp (discharger:=decide) only [eval_put_ne]); rw [Q0a (by simp only [size_put]; exact (by decide:7 < 40))]; exact q1
  have o2:bb.eval (.tmp 10)=v 4:=by rw [hbb]; dsimp only; (try simp (discharger:=decide) only [eval_put_ne]); rw [Q0a (by simp only [size_put]; exact (by decide:10 < 40))]
  rw [e9] at o2;exact ⟨_,fun w=>X8g _ (.tmp 7) (.tmp 10) rfl o1 o2 (fun w=>X9g w _ _ _ _),by show Value.agg #[.int .i64 lim,.slice s9 s.ships.length c9,.slice none 0 0]=Value.agg #[.int .i64 lim,v 4,.slice none 0 0]; rw [e9]⟩
 case g6=>
  intro v w1 hx;intro bb hbb;subst hbb;intro K hK;go_simp;exact hK _ _ (Ext.box _ _) ⟨_,rfl,Blk.made _ _ _,(hdr.trans hx).size⟩
 case g7=>
  intro v w1 hx (q0:v 0=_) (q1:v 1=_) (q2:v 2=_) (q3:v 3=_) (q4:(fun v w'=>Q0q w' w0.heap.size 3 (.int .i64) (v 4) s.ships) v w1) (q5:(fun v w'=>v 5=.agg #[.int .i64 lim,v 4,.slice none 0 0]) v w1) (q6:(fun v w'=>∃ g,v 6=.pointer (some ⟨g,0,none⟩) /\ Blk w' g 34 #[.int .i64 0,.slice none 0 0,.slice none 0 0] /\ W.heap.size <= g) v w1);intro wl hT;obtain rfl:wl=w1:=hT;intro bb hbb;intro K hK;obtain ⟨g,e13,h13,h13s⟩:=q6;obtain ⟨s9,c9,e9,_⟩:=Q0q.shape q4;have o1:bb.eval (.tmp 3)=.pointer (some ⟨g,0,none⟩):=by rw [hbb]; dsimp only; (try simp (discharger:=decide) only [eval_put_ne]); rw [Q0a (by simp only [size_put]; exact (by decide:3 < 40))]; exact e13
  have o2:bb.eval (.tmp 11)=.agg #[.int .i64 lim,v 4,.slice none 0 0]:=by rw [hbb]; dsimp only; (try simp (discharger:=decide) only [eval_put_ne]); rw [Q0a (by simp only [size_put]; exact (by decide:11 < 40))]; exact q5
  exact Q2b (.tmp 3) (.tmp 11) _ rfl Tryz.X3r o1 o2 h13 rfl rfl (by intro u hu; rw [e9] at hu; simp only [List.mem_cons,List.not_mem_nil,or_false] at hu; rcases hu with rfl | rfl | rfl <;> rfl) (fun vv w' hb hl ho=>hK _ _ ⟨g,e13,h13,hb,hl,ho,h13s,q4⟩)
 case post =>
  intro v w1 hx (q0:v 0=_) (q1:v 1=_) (q2:v 2=_) (q3:v 3=_) (q4:(fun v w'=>Q0q w' w0.heap.size 3 (.int .i64) (v 4) s.ships) v w1) (q5:(fun v w'=>v 5=.agg #[.int .i64 lim,v 4,.slice none 0 0]) v w1) (q6:(fun v w'=>∃ g,v 6=.pointer (some ⟨g,0,none⟩) /\ Blk w' g 34 #[.int .i64 0,.slice none 0 0,.slice none 0 0] /\ W.heap.size <= g) v w1);intro w2 hE;replace hE:(fun v w1 w'=>∃ g,v 6=.pointer (some ⟨g,0,none⟩) /\ Blk w1 g 34 #[.int .i64 0,.slice none 0 0,.slice none 0 0] /\ Blk w' g 34 #[.int .i64 lim,v 4,.slice none 0 0] /\ (∀ n,n <= g -> Below n w1 w') /\ (∀ k,k ≠ g -> w'.heap[k]?=w1.heap[k]?) /\ W.heap.size <= g /\ Q0q w1 w0.heap.size 3 (.int .i64) (v 4) s.ships) v w1 w2:=hE;simp only [Flow.acts,Act.put];go_simp;obtain ⟨O,e6,hbO,hb9,hl9,ho9,hOs,hu4⟩:=hE;have hxx:=hdr.trans hx;have hx2:Ext W w2:=Below.trans hxx (hl9 _ hOs);have hus:=Q6m (Q0q.weaken hu4 (Nat.zero_le _)) hbO (by decide) ho9
  have hst:∀ b,(v 4).ownBlock=some b -> w0.heap.size <= b:=fun b hb=>(World.ownsRow.lt hu4 b hb).1;obtain ⟨su,cu,eu,_⟩:=hus.shape;have HX2:=hid hx2;have HK0:=hid (K0.out.ext hx2);have HK1:=hid (K1.out.ext hx2);have HOW:Hid (W.heap.size <= O):=hid hOs;rw [e6];obtain ⟨uv,huv⟩:∃ z,v 4=z:=⟨_,rfl⟩;rw [huv] at hb9 hus eu hst ⊢;have HSTU:=hid hst;have HU:=hid hus;have HBO:=hid hb9;have HEU:=hid eu;have hgO:gs + 1 + 1 <= O:=by omega
  have hOw:O + 1 <= w2.heap.size:=by have:=hb9.lt; omega
  have c2:w2.cell? ⟨gs,2,none⟩=some (.slice B n capb):=HK0.out.cell 2;obtain ⟨wb,rfl⟩:∃ Z,Z=w2:=⟨_,rfl⟩;clear hst hx hdr hxx hx2 hus eu hbO hb9 hl9 ho9 hOs hu4 e6 huv eW q0 q1 q2 q3 q4 q5 q6;go_wp2_with fail;clear c2
  go_loopw [15] (fun i wr=>∃ (k:Nat) (xv:Value) (qs:List MV),k <= n /\ i=.int .i64 k /\ Q0z wr wb.heap.size 69 5 Y4k xv qs /\ qs.map (·.1)=s.members.take k /\ J0w wr qs /\ Q0q wr 0 3 (.int .i64) uv s.ships /\ Blk wr O 34 #[.int .i64 lim,uv,xv] /\ Off O wb wr /\ StA w0.heap.size uv qs) (fun i _=>n - (intOf i).toNat)
  case atStart=>exact ⟨0,_,[],Nat.zero_le _,rfl,Q0z.nil _ _ _ _ _,rfl,(fun q hq=>by simp at hq),HU.out,HBO.out,Off.refl _ _,HSTU.out,(fun q hq=>by simp at hq),List.Pairwise.nil⟩
  case round =>
   obtain ⟨k,xv,qs,hk,rfl,hown,hqs,hmr,hu,hbo,hoff,hsta⟩:=hrel;have HSTA:=hid hsta;clear hsta;have hqk:qs.length=k:=by rw [<- List.length_map (f:=(·.1)),hqs,List.length_take,HN.out]; omega
   have hxr:Ext w wr:=Below.trans HXW.out (Below.trans (HX2.out.mono (by have:=HGS.out; have:=HXW.out.size; omega)) (hoff.1.mono (by have:=HGS.out; omega)))
   have HQS:=hid hqs;have HMR:=hid hmr;have HUU:=hid hu;have HOWN:=hid hown;have HBK:=hid hbo;have HOF:=hid hoff
   by_cases hlt:k < n
   . have hkI:(k:Int) < n:=by omega
     obtain ⟨b1,off,x,y,z,rfl,hb,e0,e1,e2,e3,e4,hi1,hi2,hi3,hsn⟩:=HC.out k hlt;replace e0:=hxr.cell e0;replace e1:=hxr.cell e1;replace e2:=hxr.cell e2;replace e3:=hxr.cell e3;replace e4:=hxr.cell e4;obtain ⟨X,capx,rfl,-,-,-⟩:=hi1.opened;obtain ⟨Y,capy,rfl,-,-,-⟩:=hi2.opened;obtain ⟨Z,capz,rfl,-,-,-⟩:=hi3.opened;have hsh:=HS.out.each k (by rw [HN.out]; exact hlt)
     obtain ⟨-,hs1,hs2,hs3⟩:=hsh;have htk:s.members.take (k + 1)=s.members.take k ++ [⟨Q1h s.members k,Q0i s.members k,Q0c s.members k,Q0t s.members k,Q0y s.members k⟩]:=by
      rw [List.take_succ_eq_append_getElem (by rw [HN.out]; exact hlt)]
      unfold Q1h Q0i Q0c Q0t Q0y;rw [Q0v _ (by rw [HN.out]; exact hlt)]
     have HTK:=hid htk;have HI1:=hid (hi1.ext hxr);have HI2:=hid (hi2.ext hxr);have HI3:=hid (hi3.ext hxr);obtain ⟨nm,hnm⟩:∃ x,Q1h s.members k=x:=⟨_,rfl⟩;obtain ⟨wt,hwt⟩:∃ x,Q0i s.members k=x:=⟨_,rfl⟩;obtain ⟨l1,hl1⟩:∃ x,Q0c s.members k=x:=⟨_,rfl⟩;obtain ⟨l2,hl2⟩:∃ x,Q0t s.members k=x:=⟨_,rfl⟩;obtain ⟨l3,hl3⟩:∃ x,Q0y s.members k=x:=⟨_,rfl⟩;rw [hnm,hwt,hl1,hl2,hl3] at HTK;rw [hnm] at e0;rw [hwt] at e1;rw [hl1] at e2 HI1 hs1;rw [hl2] at e3 HI2 hs2;rw [hl3] at e4 HI3 hs3;obtain ⟨wq,rfl⟩:∃ Z,Z=wr:=⟨_,rfl⟩;clear hown hqs hmr hu hbo hoff hxr hi1 hi2 hi3 hsn htk hnm hwt hl1 hl2 hl3;go_wp2_with (with_reducible (refine Z2c ?_); refine Q0s rfl _ _ _ rfl Tryz.Z6y rfl rfl (Blk.made _ _ _) rfl rfl J2j ?_; intro w3 hb3 hl3' ho3; refine halted ?_);obtain ⟨gm,hgm⟩:∃ x,wq.heap.size=x:=⟨_,rfl⟩;have hx3:Ext wq w3:=Below.trans (Ext.box wq _) (hl3' _ (Nat.le_refl _));rw [hgm] at hb3 ⊢;have hgO:O < gm:=by have:=HBK.out.lt; omega
     have KB:=hid hb3;have HX3:=hid hx3;have HBK3:=hid (HBK.out.ext hx3);have HOW3:=hid (HOWN.out.below hx3);have HMR3:Hid (J0w w3 qs):=hid (fun q hq=>(HMR.out q hq).ext hx3);have HU3:=hid (HUU.out.below hx3);have HOF3:=hid (HOF.out.ext hx3 (by omega))
     have HJ1:=hid (HI1.out.ext hx3);have HJ2:=hid (HI2.out.ext hx3);have HJ3:=hid (HI3.out.ext hx3);have hdr:=(Ext.refl w3).drew;have hs3w:wb.heap.size <= w3.heap.size:=HOF3.out.2.1;clear hb3 hl3' ho3 hx3 hgm e0 e1 e2 e3 e4;unfold Q1i;go_wp2_with fail;refine Flow.Q4m [.p,.w,.p,.w,.p,.w,.p,.w,.w,.p,.w,.w,.p,.w,.w,.p,.w,.last,.last,.last] [0,1,2,3,4,5,6,7,8,9,10,11,12,13,14,15,16,17,18,19] [[],[0],[],[2],[],[4],[],[6],[6,7],[],[9],[6,7,8,9,10],[],[12],[6,7,8,9,10,11,12,13],[2,3,4,5,6,7,8,9,10,11,12,13,14],[2,3,4,5,6,7,8,9,10,11,12,13,14,15],[0,1,2,3,4,5,6,7,8,9,10,11,12,13,14,15,16],[0,1,2,3,4,5,6,7,8,9,10,11,12,13,14,15,16,17],[0,1,2,3,4,5,6,7,8,9,10,11,12,13,14,15,16,17,18]] [17,18,19]
      [.c 0 (.pointer (some ⟨O,2,none⟩)),.c 1 (xv),.c 2 (.pointer (some ⟨gm,0,none⟩)),.c 3 (.string nm),.c 4 (.pointer (some ⟨gm,1,none⟩)),.c 5 (.int .i64 wt),.c 6 (.pointer (some ⟨gm,2,none⟩)),.c 7 (.slice X l1.length capx),⟨fun v wz=>(fun v w'=>Q0q w' w3.heap.size 3 (.int .i64) (v 8) l1) v wz,fun _ _ _ hx h=>Q0q.below h hx⟩,.c 9 (.pointer (some ⟨gm,3,none⟩)),.c 10 (.slice Y l2.length capy),⟨fun v wz=>(fun v w'=>Q0q w' w3.heap.size 3 (.int .i64) (v 11) l2 /\ ∀ b,(v 8).ownBlock=some b -> (v 11).ownBlock ≠ some b /\ b < w'.heap.size) v wz,by intro v a c hx h; exact ⟨Q0q.below h.1 hx,fun b hb=>⟨(h.2 b hb).1,Nat.lt_of_lt_of_le (h.2 b hb).2 hx.size⟩⟩⟩,.c 12 (.pointer (some ⟨gm,4,none⟩)),.c 13 (.slice Z l3.length capz),⟨fun v wz=>(fun v w'=>Q0q w' w3.heap.size 3 (.int .i64) (v 14) l3 /\ ∀ b,(v 8).ownBlock=some b -> (v 14).ownBlock ≠ some b) v wz,by intro v a c hx h; exact ⟨Q0q.below h.1 hx,h.2⟩⟩,⟨fun v wz=>(fun v w'=>v 15=.agg #[.string nm,.int .i64 wt,v 8,v 11,v 14]) v wz,by intro _ _ _ _ h; exact h⟩,⟨fun v wz=>(fun v w'=>∃ g,v 16=.slice (some ⟨g,0,none⟩) 1 1 /\ Blk w' g 69 (Y4k (⟨nm,wt,l1,l2,l3⟩,v 8,v 11,v 14)).toArray) v wz,by rintro v a b hx ⟨g,h1,h2⟩; exact ⟨g,h1,h2.ext hx⟩⟩,.none,.none,.none]
      [fun v w1 w'=>Q0z w' wb.heap.size 69 5 Y4k (v 17) (qs ++ [(⟨nm,wt,l1,l2,l3⟩,v 8,v 11,v 14)]) /\ w1.grownBy w' xv.ownBlock,fun v w1 w'=>v 18=.pointer (some ⟨O,2,none⟩) /\ Q0z w' wb.heap.size 69 5 Y4k (v 17) (qs ++ [(⟨nm,wt,l1,l2,l3⟩,v 8,v 11,v 14)]) /\ w1.grownBy w' xv.ownBlock,fun v w1 w'=>∃ x wm,Q0z wm wb.heap.size 69 5 Y4k x (qs ++ [(⟨nm,wt,l1,l2,l3⟩,v 8,v 11,v 14)]) /\ w1.grownBy wm xv.ownBlock /\ w'=wm.setCell ⟨O,2,none⟩ x] (by kernel_rfl) rfl (by kernel_rfl) ⟨?g0,?g1,?g2,?g3,?g4,?g5,?g6,?g7,?g8,?g9,?g10,?g11,?g12,?g13,?g14,?g15,?g16,?g17,?g18,?g19,trivial⟩ ?post
     case g0 | g2 | g4 | g6 | g9 | g12=>
      intro v w1 hx;intro bb hbb;subst hbb;refine ⟨_,fun w=>?_,rfl⟩;go_simp
     case g1 | g3 | g5 | g7 | g10 | g13=>
      intro v w1 hx;(repeat intro (zq:v _=_));intro bb hbb;subst hbb;have n0:w1.cell? ⟨O,2,none⟩=some xv:=(HBK3.out.ext (hdr.trans hx)).cell 2;have n1:w1.cell? ⟨gm,0,none⟩=some (.string nm):=(KB.out.ext (hdr.trans hx)).cell 0;have n2:w1.cell? ⟨gm,1,none⟩=some (.int .i64 wt):=(KB.out.ext (hdr.trans hx)).cell 1;have n3:w1.cell? ⟨gm,2,none⟩=some (.slice X l1.length capx):=(KB.out.ext (hdr.trans hx)).cell 2;have n4:w1.cell? ⟨gm,3,none⟩=some (.slice Y l2.length capy):=(KB.out.ext (hdr.trans hx)).cell 3;have n5:w1.cell? ⟨gm,4,none⟩=some (.slice Z l3.length capz):=(KB.out.ext (hdr.trans hx)).cell 4;intro K hK;go_simp;exact hK _ _ (Ext.refl _) rfl
     case g8=>
      intro v w1 hx;(repeat intro (zq:v _=_));intro bb hbb;subst hbb;intro K hK;go_simp;refine Q0e (Q8m w1 _ _ (HJ1.out.ext (hdr.trans hx)) (by omega)) ?_
      rintro e w2 ⟨u,rfl,hown,hx2⟩;exact ⟨_,rfl,hK _ _ hx2 (Q0q.weaken hown (hdr.trans hx).size)⟩
     case g11=>
      intro v w1 hx (q6:v 6=_) (q7:v 7=_) (q8:(fun v w'=>Q0q w' w3.heap.size 3 (.int .i64) (v 8) l1) v w1) (q9:v 9=_) (q10:v 10=_);intro bb hbb;subst hbb;intro K hK;go_simp;refine Q0e (Q8m w1 _ _ (HJ2.out.ext (hdr.trans hx)) (by omega)) ?_
      rintro e w2 ⟨u,rfl,hown,hx2⟩;exact ⟨_,rfl,hK _ _ hx2 ⟨Q0q.weaken hown (hdr.trans hx).size,fun b hb=>⟨fun h=>by have h1:=(World.ownsRow.lt q8 b hb).2; have h2:=(World.ownsRow.lt hown b h).1; omega,Nat.lt_of_lt_of_le (World.ownsRow.lt q8 b hb).2 hx2.size⟩⟩⟩
     case g14=>
      intro v w1 hx (q6:v 6=_) (q7:v 7=_) _ (q9:v 9=_) (q10:v 10=_) (q11:(fun v w'=>Q0q w' w3.heap.size 3 (.int .i64) (v 11) l2 /\ ∀ b,(v 8).ownBlock=some b -> (v 11).ownBlock ≠ some b /\ b < w'.heap.size) v w1) (q12:v 12=_) (q13:v 13=_);intro bb hbb;subst hbb;intro K hK;go_simp;refine Q0e (Q8m w1 _ _ (HJ3.out.ext (hdr.trans hx)) (by omega)) ?_
      rintro e w2 ⟨u,rfl,hown,hx2⟩;exact ⟨_,rfl,hK _ _ hx2 ⟨Q0q.weaken hown (hdr.trans hx).size,fun b hb h=>by have h1:=(q11.2 b hb).2; have h2:=(World.ownsRow.lt hown b h).1; omega⟩⟩
     case g15=>
      intro v w1 hx (q2:v 2=_) (q3:v 3=_) (q4:v 4=_) (q5:v 5=_) (q6:v 6=_) (q7:v 7=_) (q8:(fun v w'=>Q0q w' w3.heap.size 3 (.int .i64) (v 8) l1) v w1) (q9:v 9=_) (q10:v 10=_) (q11:(fun v w'=>Q0q w' w3.heap.size 3 (.int .i64) (v 11) l2 /\ ∀ b,(v 8).ownBlock=some b -> (v 11).ownBlock ≠ some b /\ b < w'.heap.size) v w1) (q12:v 12=_) (q13:v 13=_) (q14:(fun v w'=>Q0q w' w3.heap.size 3 (.int .i64) (v 14) l3 /\ ∀ b,(v 8).ownBlock=some b -> (v 14).ownBlock ≠ some b) v w1);intro bb hbb;obtain ⟨s9,c9,e9,_⟩:=Q0q.shape q8;obtain ⟨s10,c10,e10,_⟩:=Q0q.shape q11.1;obtain ⟨s11,c11,e11,_⟩:=Q0q.shape q14.1;have o1:bb.eval (.tmp 22)=.string nm:=by rw [hbb]; dsimp only; (try simp (discharger:=decide) only [eval_put_ne]); rw [Q0a (by simp only [size_put]; exact (by decide:22 < 40))]; exact q3
      have o2:bb.eval (.tmp 24)=.int .i64 wt:=by rw [hbb]; dsimp only; (try simp (discharger:=decide) only [eval_put_ne]); rw [Q0a (by simp only [size_put]; exact (by decide:24 < 40))]; exact q5
      have o3:bb.eval (.tmp 27)=v 8:=by rw [hbb]; dsimp only; (try simp (discharger:=decide) only [eval_put_ne]); rw [Q0a (by simp only [size_put]; exact (by decide:27 < 40))]
      have o4:bb.eval (.tmp 30)=v 11:=by rw [hbb]; dsimp only; (try simp (discharger:=decide) only [eval_put_ne]); rw [Q0a (by simp only [size_put]; exact (by decide:30 < 40))]
      have o5:bb.eval (.tmp 33)=v 14:=by rw [hbb]; dsimp only; (try simp (discharger:=decide) only [eval_put_ne]); rw [Q0a (by simp only [size_put]; exact (by decide:33 < 40))]
      rw [e9] at o3;rw [e10] at o4;rw [e11] at o5;exact ⟨_,fun w=>Z0s _ (.tmp 22) (.tmp 24) (.tmp 27) (.tmp 30) (.tmp 33) rfl o1 o2 o3 o4 o5 (fun w=>Y1u w _ _ _ _ _ _ _ _ _ _ _),by show Value.agg #[.string nm,.int .i64 wt,.slice s9 l1.length c9,.slice s10 l2.length c10,.slice s11 l3.length c11]=Value.agg #[.string nm,.int .i64 wt,v 8,v 11,v 14]; rw [e9,e10,e11]⟩
     case g16=>
      intro v w1 hx (q2:v 2=_) (q3:v 3=_) (q4:v 4=_) (q5:v 5=_) (q6:v 6=_) (q7:v 7=_) (q8:(fun v w'=>Q0q w' w3.heap.size 3 (.int .i64) (v 8) l1) v w1) (q9:v 9=_) (q10:v 10=_) (q11:(fun v w'=>Q0q w' w3.heap.size 3 (.int .i64) (v 11) l2 /\ ∀ b,(v 8).ownBlock=some b -> (v 11).ownBlock ≠ some b /\ b < w'.heap.size) v w1) (q12:v 12=_) (q13:v 13=_) (q14:(fun v w'=>Q0q w' w3.heap.size 3 (.int .i64) (v 14) l3 /\ ∀ b,(v 8).ownBlock=some b -> (v 14).ownBlock ≠ some b) v w1) (q15:(fun v w'=>v 15=.agg #[.string nm,.int .i64 wt,v 8,v 11,v 14]) v w1);intro bb hbb;intro K hK;obtain ⟨s9,c9,e9,_⟩:=Q0q.shape q8;obtain ⟨s10,c10,e10,_⟩:=Q0q.shape q11.1;obtain ⟨s11,c11,e11,_⟩:=Q0q.shape q14.1;have o1:bb.eval (.tmp 34)=.agg #[.string nm,.int .i64 wt,v 8,v 11,v 14]:=by rw [hbb]; dsimp only; (try simp (discharger:=decide) only [eval_put_ne]); rw [Q0a (by simp only [size_put]; exact (by decide:34 < 40))]; exact q15
      rw [e9,e10,e11] at o1;have hbl:Blk (w1.alloc (.cells (Value.agg #[.string nm,.int .i64 wt,.slice s9 l1.length c9,.slice s10 l2.length c10,.slice s11 l3.length c11]).cells 69)) w1.heap.size 69 (Y4k (⟨nm,wt,l1,l2,l3⟩,v 8,v 11,v 14)).toArray:=by rw [e9,e10,e11]; exact Blk.made _ _ _
      exact Q3i 32 69 (.tmp 34) rfl o1 (Z2k w1 _ _ _ _ _ _ _ _ _ _ _) (hK _ _ (Ext.box _ _) ⟨_,rfl,hbl⟩)
     case g17=>
      intro v w1 hx (q0:v 0=_) (q1:v 1=_) (q2:v 2=_) (q3:v 3=_) (q4:v 4=_) (q5:v 5=_) (q6:v 6=_) (q7:v 7=_) (q8:(fun v w'=>Q0q w' w3.heap.size 3 (.int .i64) (v 8) l1) v w1) (q9:v 9=_) (q10:v 10=_) (q11:(fun v w'=>Q0q w' w3.heap.size 3 (.int .i64) (v 11) l2 /\ ∀ b,(v 8).ownBlock=some b -> (v 11).ownBlock ≠ some b /\ b < w'.heap.size) v w1) (q12:v 12=_) (q13:v 13=_) (q14:(fun v w'=>Q0q w' w3.heap.size 3 (.int .i64) (v 14) l3 /\ ∀ b,(v 8).ownBlock=some b -> (v 14).ownBlock ≠ some b) v w1) _ (q16:(fun v w'=>∃ g,v 16=.slice (some ⟨g,0,none⟩) 1 1 /\ Blk w' g 69 (Y4k (⟨nm,wt,l1,l2,l3⟩,v 8,v 11,v 14)).toArray) v w1);intro wl hT;obtain rfl:wl=w1:=hT;intro bb hbb;intro K hK;obtain ⟨g,hg10,hb10⟩:=q16;have o1:bb.eval (.tmp 20)=xv:=by rw [hbb]; dsimp only; (try simp (discharger:=decide) only [eval_put_ne]); rw [Q0a (by simp only [size_put]; exact (by decide:20 < 40))]; exact q1
      have o2:bb.eval (.tmp 35)=.slice (some ⟨g,0,none⟩) 1 1:=by rw [hbb]; dsimp only; (try simp (discharger:=decide) only [eval_put_ne]); rw [Q0a (by simp only [size_put]; exact (by decide:35 < 40))]; exact hg10
      have hxx:=hdr.trans hx;exact Q2i _ _ 32 rfl wb.heap.size 69 l0 (.agg #[.string ⟨#[]⟩,.int .i64 0,.slice none 0 0,.slice none 0 0,.slice none 0 0]) 5 96 Tryz.underlying32 li lz0 lz1 lz2 rfl (by decide) Y4k Y7t xv _ (⟨nm,wt,l1,l2,l3⟩,v 8,v 11,v 14) o1 (HOW3.out.below hxx) ⟨g,0,none⟩ 1 o2 (Q5g hb10) (Y0w.one (q:=(⟨nm,wt,l1,l2,l3⟩,v 8,v 11,v 14)) ⟨Q0q.weaken q8 (Nat.zero_le _),Q0q.weaken q11.1 (Nat.zero_le _),Q0q.weaken q14.1 (Nat.zero_le _)⟩) (by omega) (by decide) (by have:=hxx.size; omega) (fun v' w' h1 h2=>hK _ _ ⟨h1,h2⟩)
     case g18=>
      intro v w1 hx (q0:v 0=_) (q1:v 1=_) (q2:v 2=_) (q3:v 3=_) (q4:v 4=_) (q5:v 5=_) (q6:v 6=_) (q7:v 7=_) _ (q9:v 9=_) (q10:v 10=_) _ (q12:v 12=_) (q13:v 13=_) _ _ _;intro wl hT;replace hT:(fun v w1 w'=>Q0z w' wb.heap.size 69 5 Y4k (v 17) (qs ++ [(⟨nm,wt,l1,l2,l3⟩,v 8,v 11,v 14)]) /\ w1.grownBy w' xv.ownBlock) v w1 wl:=hT;intro bb hbb;subst hbb;intro K hK;go_simp;exact hK _ _ ⟨rfl,hT⟩
     case g19=>
      intro v w1 hx (q0:v 0=_) (q1:v 1=_) (q2:v 2=_) (q3:v 3=_) (q4:v 4=_) (q5:v 5=_) (q6:v 6=_) (q7:v 7=_) _ (q9:v 9=_) (q10:v 10=_) _ (q12:v 12=_) (q13:v 13=_) _ _ _;intro wl hT;replace hT:(fun v w1 w'=>v 18=.pointer (some ⟨O,2,none⟩) /\ Q0z w' wb.heap.size 69 5 Y4k (v 17) (qs ++ [(⟨nm,wt,l1,l2,l3⟩,v 8,v 11,v 14)]) /\ w1.grownBy w' xv.ownBlock) v w1 wl:=hT;intro bb hbb;intro K hK;obtain ⟨hT0,hT1,hT2⟩:=hT;have hxx:=hdr.trans hx;obtain ⟨bp,cp,hsh,_⟩:=hT1.shape;have o1:bb.eval (.tmp 37)=.pointer (some ⟨O,2,none⟩):=by rw [hbb]; dsimp only; (try simp (discharger:=decide) only [eval_put_ne]); rw [Q0a (by simp only [size_put]; exact (by decide:37 < 40))]; exact hT0
      have o2:bb.eval (.tmp 36)=v 17:=by rw [hbb]; dsimp only; (try simp (discharger:=decide) only [eval_put_ne]); rw [Q0a (by simp only [size_put]; exact (by decide:36 < 40))]
      have hbl:=Go.Tw.Q5l (HBK3.out.ext hxx) (HOW3.out.below hxx) (by omega) hT2
      exact Q3y _ _ rfl Tryz.Z7t (g:=O) (k:=2) o1 o2 (by rw [hsh]; rfl) (by rw [hsh]; rfl) hbl (by show 2 < 3; omega) (fun v'=>hK _ _ ⟨v 17,wl,hT1,hT2,rfl⟩)
     case post =>
      intro v w1 hx;(iterate 8 intro (zq:v _=_));intro (q8:(fun v w'=>Q0q w' w3.heap.size 3 (.int .i64) (v 8) l1) v w1);(iterate 2 intro (zq:v _=_));intro (q11:(fun v w'=>Q0q w' w3.heap.size 3 (.int .i64) (v 11) l2 /\ ∀ b,(v 8).ownBlock=some b -> (v 11).ownBlock ≠ some b /\ b < w'.heap.size) v w1);(iterate 2 intro (zq:v _=_));intro (q14:(fun v w'=>Q0q w' w3.heap.size 3 (.int .i64) (v 14) l3 /\ ∀ b,(v 8).ownBlock=some b -> (v 14).ownBlock ≠ some b) v w1) (q15:(fun v w'=>v 15=.agg #[.string nm,.int .i64 wt,v 8,v 11,v 14]) v w1) (q16:(fun v w'=>∃ g,v 16=.slice (some ⟨g,0,none⟩) 1 1 /\ Blk w' g 69 (Y4k (⟨nm,wt,l1,l2,l3⟩,v 8,v 11,v 14)).toArray) v w1);intro w2 hE;replace hE:(fun v w1 w'=>∃ x wm,Q0z wm wb.heap.size 69 5 Y4k x (qs ++ [(⟨nm,wt,l1,l2,l3⟩,v 8,v 11,v 14)]) /\ w1.grownBy wm xv.ownBlock /\ w'=wm.setCell ⟨O,2,none⟩ x) v w1 w2:=hE;simp only [Flow.acts,Act.put];go_simp;obtain ⟨x,wm,hom,hgm,rfl⟩:=hE;have hxx:=hdr.trans hx;have hbm:=Go.Tw.Q5l (HBK3.out.ext hxx) (HOW3.out.below hxx) (by omega) hgm
      have hof:=((HOF3.out.ext hxx (by omega)).grown (HOW3.out.below hxx) (by omega) (by omega) hgm).set 2 x
      have HO6:=hid (hom.X0g (p:=⟨O,2,none⟩) (by show O < wb.heap.size; omega) x)
      have HB6:=hid (hbm.set 2 x);have HOF6:=hid hof;have HU6:=hid (Q8a (u:=x) (k:=2) (Q3d (HU3.out.below hxx) (HOW3.out.below hxx) (by decide) hgm) hbm (by decide))
      have HM6:Hid (J0w (wm.setCell ⟨O,2,none⟩ x) (qs ++ [(⟨nm,wt,l1,l2,l3⟩,v 8,v 11,v 14)])):=hid (fun q hq=>by
       rcases List.mem_append.1 hq with hq | hq
       . exact (((HMR3.out q hq).ext hxx).grown (HOW3.out.below hxx) (by decide) hgm).set hbm (by decide)
       . rw [List.mem_singleton.1 hq]
         exact (Y0w.grown (q:=(⟨nm,wt,l1,l2,l3⟩,v 8,v 11,v 14)) ⟨Q0q.weaken q8 (Nat.zero_le _),Q0q.weaken q11.1 (Nat.zero_le _),Q0q.weaken q14.1 (Nat.zero_le _)⟩ (HOW3.out.below hxx) (by decide) hgm).set hbm (by decide))
      have HST6:Hid (StA w0.heap.size uv (qs ++ [(⟨nm,wt,l1,l2,l3⟩,v 8,v 11,v 14)])):=hid (HSTA.out.snoc HU3.out HMR3.out (by have h1:=HGS.out; have h2:=HXW.out.size; have h3:=HX2.out.size; have h4:=HW0.out; omega) _ _ _ _ (fun b hb=>⟨(World.ownsRow.lt q8 b hb).1,(q11.2 b hb).1,q14.2 b hb⟩) (fun b hb=>(World.ownsRow.lt q11.1 b hb).1) (fun b hb=>(World.ownsRow.lt q14.1 b hb).1))
      obtain ⟨w6,hw6⟩:∃ y,wm.setCell ⟨O,2,none⟩ x=y:=⟨_,rfl⟩;rw [hw6] at HO6 HB6 HOF6 HU6 HM6 ⊢;clear hw6 hom hgm hxx hx hbm hof hdr q8 q11 q14 q15 q16;(repeat clear zq);go_wp2;go_roundw
      case rel=>exact ⟨k + 1,x,qs ++ [(⟨nm,wt,l1,l2,l3⟩,v 8,v 11,v 14)],by omega,by go_num,HO6.out,by rw [List.map_append,HQS.out,HTK.out]; rfl,HM6.out,HU6.out,HB6.out,HOF6.out,HST6.out⟩
      case measure=>simp [intOf]; omega
   . have hkI:¬ (k:Int) < n:=by omega
     have hkn:k=n:=by omega
     have hall:s.members.take k=s.members:=by rw [List.take_of_length_le (by rw [HN.out]; omega)]
     rw [hall] at hqs;have hsm:∀ q ∈ qs,Short q.1.name /\ q.1.classes.length <= 1000 /\ q.1.outside.length <= 1000 /\ q.1.inflow.length <= 1000:=fun q hq=>by
      have hm:q.1 ∈ s.members:=by rw [<- hqs]; exact List.mem_map_of_mem hq
      obtain ⟨j,hj,he⟩:=List.getElem_of_mem hm;obtain ⟨_,_,_,_,_,_,_,_,_,_,_,_,_,_,_,hsn⟩:=HC.out j (by rw [<- HN.out]; exact hj)
      obtain ⟨-,h1,h2,h3⟩:=HS.out.each j hj;unfold Q1h at hsn;unfold Q0c at h1;unfold Q0t at h2;unfold Q0y at h3;rw [Q0v _ hj,he] at hsn h1 h2 h3;exact ⟨hsn,by omega,by omega,by omega⟩
     have HSM:=hid hsm;have hr:=HK1.out.below HOF.out.1 (by omega)
     have HRR:=hid hr;have HXR:=hid hxr;have HXO:=hid hqs;have HOWN:=hid hown;have HBO2:=hid hbo;obtain ⟨ax,cx,ex,-⟩:=hown.shape;have HQK:=hid hqk;have hone:∀ u ∈ (#[Value.int .i64 lim,uv,xv]:Array Value).toList,u.oneCell'=true:=by
      intro u hu;simp only [List.mem_cons,List.not_mem_nil,or_false] at hu
      rcases hu with rfl | rfl | rfl
      . rfl
      . rw [HEU.out]; rfl
      . rw [ex]; rfl
     have HONE:=hid hone;clear hown hqs hmr hu hbo hoff hxr hall hsm hone ex hqk;go_wp2_with (first | (refine Q7z rfl _ _ rfl Tryz.Z3u Tryz.X3r rfl HBO2.out rfl ?_) | (refine Q0s rfl _ _ 34 rfl Tryz.X3r rfl rfl hr rfl rfl HONE.out ?_; intro w9 hb9 hl9 ho9))
     refine bodyPost_ret (Q1v Tryz.results20 rfl hb9 Tryz.Z3u Tryz.X3r) rfl ?_;refine ⟨uv,xv,rfl,qs,J3h.of ?_ ?_ ?_ HSTA.out,HXO.out,Below.trans HXR.out (hl9 _ (by have:=HGS.out; omega))⟩
     . exact Q6m HUU.out HRR.out (by decide) ho9
     . exact Q0z.weaken (HOWN.out.only (g:=gs + 1) (by omega) ho9) (by have h1:=HXW.out.size; have h2:=HX2.out.size; have h3:=HW0.out; omega)
     . exact fun q hq=>(HMR.out q hq).only HRR.out (by decide) ho9
end Go.Proofs
