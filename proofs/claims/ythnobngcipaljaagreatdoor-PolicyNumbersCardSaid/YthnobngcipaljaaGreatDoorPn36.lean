/- Contract of the law's own function: given. Lists of lists whose parts are the call's own. -/
import Derived.Test.YthnobngcipaljaaGreatDoorPn35
import Derived.Test.YthnobngcipaljaaGreatDoorPn22
import Derived.Test.YthnobngcipaljaaGreatDoorPn19
import Derived.Test.YthnobngcipaljaaGreatDoorPn09
import Derived.Test.YthnobngcipaljaaGreatDoorPn11
import Derived.Test.YthnobngcipaljaaGreatDoorPn05
import Derived.Test.YthnobngcipaljaaGreatDoorPn07
set_option maxRecDepth 1000000
set_option maxHeartbeats 64000000
set_option linter.unusedVariables false
set_option linter.unusedSimpArgs false
set_option linter.constructorNameAsVariable false
open Go.Lib (hid)
namespace Go.Proofs
open Go.RowKit Go.Tw Go.Flow
attribute [local go_sem] Oper.semAt_some
abbrev MV:=Mem × Value × Value × Value
def Y9l (q:MV):List Value:=[.string q.1.name,.int .i64 q.1.weight,q.2.1,q.2.2.1,q.2.2.2]
theorem Z2i (q:MV):(Y9l q).length=5:=rfl
structure Y6q (w:World) (q:MV):Prop where
 c:Q0m w 0 3 (.int .i64) q.2.1 q.1.classes
 o:Q0m w 0 3 (.int .i64) q.2.2.1 q.1.outside
 i:Q0m w 0 3 (.int .i64) q.2.2.2 q.1.inflow
def J6h (w:World) (qs:List MV):Prop:=∀ q ∈ qs,Y6q w q
theorem Y6q.ext {w w':World} {q:MV} (h:Y6q w q) (hx:Ext w w'):Y6q w' q:=⟨h.c.below hx,h.o.below hx,h.i.below hx⟩
theorem Y6q.one {w:World} {q:MV} (h:Y6q w q):∀ u ∈ Y9l q,u.oneCell'=true:=by
 obtain ⟨_,_,e1,_⟩:=h.c.shape;obtain ⟨_,_,e2,_⟩:=h.o.shape;obtain ⟨_,_,e3,_⟩:=h.i.shape;intro u hu;simp only [Y9l,List.mem_cons,List.not_mem_nil,or_false] at hu
 rcases hu with rfl | rfl | rfl | rfl | rfl
 . rfl
 . rfl
 . rw [e1]; rfl
 . rw [e2]; rfl
 . rw [e3]; rfl
theorem Y6q.grown {w w':World} {q:MV} {base n size:Nat} {e:TypeId} {cv:Value} {xs:List Value} (h:Y6q w q) (hown:w.ownsRow base e size cv n xs) (he:e ≠ 3) (hg:w.grownBy w' cv.ownBlock):Y6q w' q:=⟨Q4f h.c hown he hg,Q4f h.o hown he hg,Q4f h.i hown he hg⟩
theorem Y6q.set {w:World} {q:MV} {O k:Nat} {u:Value} {S:TypeId} {cs:Array Value} (h:Y6q w q) (hb:Blk w O S cs) (hT:S ≠ 3):Y6q (w.setCell ⟨O,k,none⟩ u) q:=⟨Q9z h.c hb hT,Q9z h.o hb hT,Q9z h.i hb hT⟩
theorem Q5m {w w':World} {v:Value} {l:List Int} {g:Nat} {T S:TypeId} {cs:Array Value} (h:Q0m w 0 T (Value.int .i64) v l) (hb:Blk w g S cs) (hT:S ≠ T) (ho:∀ k,k ≠ g -> w'.heap[k]?=w.heap[k]?):Q0m w' 0 T (Value.int .i64) v l:=by
 obtain ⟨h1,h2⟩:=h;refine ⟨h1,?_⟩
 rcases h2 with h2 | ⟨g',cap,cur,hv,hbb,hgl,r⟩
 . exact .inl h2
 . refine .inr ⟨g',cap,cur,hv,hbb,?_,r⟩
   rw [ho g' ?_]; exact hgl;rintro rfl;unfold Blk at hb;rw [hb] at hgl;injection hgl with hgl;injection hgl with _ h3 _;exact hT h3
theorem Y6q.only {w w':World} {q:MV} {g:Nat} {S:TypeId} {cs:Array Value} (h:Y6q w q) (hb:Blk w g S cs) (hT:S ≠ 3) (ho:∀ k,k ≠ g -> w'.heap[k]?=w.heap[k]?):Y6q w' q:=⟨Q5m h.c hb hT ho,Q5m h.o hb hT ho,Q5m h.i hb hT ho⟩
theorem Z7i {w:World} {B:Nat} {T:TypeId} {v:Value} {qs:List MV} (h:Q1g w B T 5 Y9l v qs) (hl:qs.length <= 100000) (hr:J6h w qs) (hs:∀ q ∈ qs,Short q.1.name /\ q.1.classes.length <= 1000 /\ q.1.outside.length <= 1000 /\ q.1.inflow.length <= 1000):X0b w v (qs.map (·.1)):=by
 refine h.rowsOf (by simp) (by simp; omega) Z2i (fun j h1 h2=>?_) (fun c c' x hc h=>?_)
 . have hq:=List.getElem_mem h1
   have hm:=hr _ hq;obtain ⟨s1,s2,s3,s4⟩:=hs _ hq;simp only [List.getElem_map];exact ⟨rfl,rfl,hm.c.ints (by omega),hm.o.ints (by omega),hm.i.ints (by omega),s1⟩
 . exact ⟨by rw [<- hc 0 (by omega)]; exact h.1,by rw [<- hc 1 (by omega)]; exact h.2.1,by rw [<- hc 2 (by omega)]; exact h.2.2.1,by rw [<- hc 3 (by omega)]; exact h.2.2.2.1,by rw [<- hc 4 (by omega)]; exact h.2.2.2.2.1,h.2.2.2.2.2⟩
theorem Tryz.J5l:(Tryz.prog.info? 69).map (fun i=>(i.zero,i.size,i.bytes))=some (some (.agg #[.string ⟨#[]⟩,.int .i64 0,.slice none 0 0,.slice none 0 0,.slice none 0 0]),5,96):=by kernel_rfl
theorem Tryz.J2x (w:World):(sizeOf 68).run Tryz.prog w=.ok 5 w:=by kernel_rfl
theorem Tryz.J3o (w:World):(sizeOf 32).run Tryz.prog w=.ok 1 w:=by kernel_rfl
theorem Tryz.X7q (w:World):(sizeOf 34).run Tryz.prog w=.ok 3 w:=by kernel_rfl
theorem Tryz.Z6t (w:World):(isAgg 34).run Tryz.prog w=.ok true w:=by kernel_rfl
theorem Y3u (w:World) (i:Int) (a:Option Addr) (n c:Nat):(Instr.build 34 #[(0,.int .i64 i),(1,.slice a n c)]).run Tryz.prog w=.ok (.agg #[.int .i64 i,.slice a n c,.slice none 0 0]) w:=by kernel_rfl
theorem Y7p (w:World) (s:ByteArray) (i:Int) (a b d:Option Addr) (n1 c1 n2 c2 n3 c3:Nat):(Instr.build 69 #[(0,.string s),(1,.int .i64 i),(2,.slice a n1 c1),(3,.slice b n2 c2),(4,.slice d n3 c3)]).run Tryz.prog w=.ok (.agg #[.string s,.int .i64 i,.slice a n1 c1,.slice b n2 c2,.slice d n3 c3]) w:=by kernel_rfl
theorem Z8z (w:World) (s:ByteArray) (i:Int) (a b d:Option Addr) (n1 c1 n2 c2 n3 c3:Nat):(Instr.buildSlice 32 1 #[(0,.agg #[.string s,.int .i64 i,.slice a n1 c1,.slice b n2 c2,.slice d n3 c3])]).run Tryz.prog w=.ok (.slice (some ⟨w.heap.size,0,none⟩) 1 1) (w.alloc (.cells #[.string s,.int .i64 i,.slice a n1 c1,.slice b n2 c2,.slice d n3 c3] 69)):=by kernel_rfl
theorem Y3h {w:World} {o:Oper} {a:Act} (T:TypeId) (x y:Operand) (hop:o.op=.build T #[(0,x),(1,y)]) {u1 u2 r:Value} (h1:a.eval x=u1) (h2:a.eval y=u2) (hr:∀ w,(Instr.build T #[(0,u1),(1,u2)]).run Tryz.prog w=.ok r w):(execOp a.eval o).run Tryz.prog w=.ok (.value r) w:=by
 unfold execOp;simp only [hop,List.map_toArray,List.map_cons,List.map_nil,h1,h2,Sem.run_bind,hr,Result.andThen_ok,Sem.run_pure]
theorem Z5t {w:World} {o:Oper} {a:Act} (T:TypeId) (x y z p q:Operand) (hop:o.op=.build T #[(0,x),(1,y),(2,z),(3,p),(4,q)]) {u1 u2 u3 u4 u5 r:Value} (h1:a.eval x=u1) (h2:a.eval y=u2) (h3:a.eval z=u3) (h4:a.eval p=u4) (h5:a.eval q=u5) (hr:∀ w,(Instr.build T #[(0,u1),(1,u2),(2,u3),(3,u4),(4,u5)]).run Tryz.prog w=.ok r w):(execOp a.eval o).run Tryz.prog w=.ok (.value r) w:=by
 unfold execOp;simp only [hop,List.map_toArray,List.map_cons,List.map_nil,h1,h2,h3,h4,h5,Sem.run_bind,hr,Result.andThen_ok,Sem.run_pure]
theorem Z9j {P:Program} {ops:Array Oper} {Q:Exit -> Act -> World -> Prop} {rest:List Oper} {a:Act} {w:World} {T ty:TypeId} {p x:Operand} {pos} {after} (h:wpList P ops Q (⟨none,.store T p x,ty,pos,after,none⟩ :: rest) a w):wpList P ops Q (⟨none,.store T p x,ty,pos,after,none⟩ :: rest) a w:=h
theorem J7s {a:ByteArray} {b:Int} {X Y Z:Option Addr} {l m n c d e:Nat}:∀ u ∈ (#[Value.string a,.int .i64 b,.slice X l c,.slice Y m d,.slice Z n e]:Array Value).toList,u.oneCell'=true:=by
 intro u hu;simp only [List.mem_cons,List.not_mem_nil,or_false] at hu
 rcases hu with rfl | rfl | rfl | rfl | rfl <;> rfl
theorem Q7z (w:World) (v:Value) (s:Q0b) (hv:Q0f w v s) (hs:Q3x s) :
    Calls Tryz.prog 20 #[v] w fun e w'=>∃ u,e=.returned u /\ Q0f w' u s /\ Ext w w':=by
 obtain ⟨l0,li,lz0,lz1,lz2⟩:=info_parts Tryz.J5l;obtain ⟨a,b,rfl,h2⟩:=hv;obtain ⟨A,capa,rfl,-,-,-⟩:=h2.ships.opened;obtain ⟨B,capb,rfl,-,-,hc⟩:=h2.members.opened;have H2:=hid h2;have HC:=hid hc;have HS:=hid hs;have hT7:=hs.ships;have hn9:=hs.members;obtain ⟨n,hn⟩:∃ n,s.members.length=n:=⟨_,rfl⟩;have HN:=hid hn;obtain ⟨T,hT⟩:∃ n,s.ships.length=n:=⟨_,rfl⟩;have HT:=hid hT;obtain ⟨lim,hlim⟩:∃ n,s.limit=n:=⟨_,rfl⟩;have HLIM:=hid hlim;have hi2:=h2.ships;rw [hT] at hi2 hT7;rw [hn] at HC hn9;rw [hn,hT,hlim];have HSH:=hid hi2;clear h2 hc hs hn hT hlim hi2;go_enter Tryz.func20,Tryz.ntmps20;go_wp2_with fail;obtain ⟨W,hWW,k0,k1,HXW,eW⟩:=Q2t w 25 #[.int .i64 lim,.slice A T capa,.slice B n capb] 34 #[.int .i64 0,.slice none 0 0,.slice none 0 0];rw [hWW];clear hWW;obtain ⟨gs,hgs⟩:∃ x,w.heap.size=x:=⟨_,rfl⟩;have HGS:=hid hgs;rw [hgs] at k0 k1 eW ⊢;have K0:=hid k0;have K1:=hid k1;clear k0 k1 hgs;have hdr:=(Ext.refl W).drew;refine Flow.Q4c [.p,.w,.p,.w,.w,.p,.w,.last] [0,1,2,3,4,5,6,7] [[],[0],[],[2],[2,3],[0,1,2,3,4],[],[0,1,2,3,4,5,6]] [7]
  [.c 0 (.pointer (some ⟨gs,0,none⟩)),.c 1 (.int .i64 lim),.c 2 (.pointer (some ⟨gs,1,none⟩)),.c 3 (.slice A T capa),⟨fun v wz=>(fun v w'=>Q0m w' 0 3 (.int .i64) (v 4) s.ships) v wz,fun _ _ _ hx h=>Q0m.below h hx⟩,⟨fun v wz=>(fun v w'=>v 5=.agg #[.int .i64 lim,v 4,.slice none 0 0]) v wz,by intro _ _ _ _ h; exact h⟩,⟨fun v wz=>(fun v w'=>∃ g,v 6=.pointer (some ⟨g,0,none⟩) /\ Blk w' g 34 #[.int .i64 0,.slice none 0 0,.slice none 0 0] /\ W.heap.size <= g) v wz,by rintro v a b hx ⟨g,h1,h2,h3⟩; exact ⟨g,h1,h2.ext hx,h3⟩⟩,.none]
  [fun v w1 w'=>∃ g,v 6=.pointer (some ⟨g,0,none⟩) /\ Blk w1 g 34 #[.int .i64 0,.slice none 0 0,.slice none 0 0] /\ Blk w' g 34 #[.int .i64 lim,v 4,.slice none 0 0] /\ (∀ n,n <= g -> Below n w1 w') /\ (∀ k,k ≠ g -> w'.heap[k]?=w1.heap[k]?) /\ W.heap.size <= g /\ Q0m w1 0 3 (.int .i64) (v 4) s.ships] (by kernel_rfl) rfl (by kernel_rfl) ⟨?g0,?g1,?g2,?g3,?g4,?g5,?g6,?g7,trivial⟩ ?post
 case g0 | g2=>
  intro v w1 hx;intro bb hbb;subst hbb;refine ⟨_,fun w=>?_,rfl⟩;go_simp
 case g1 | g3=>
  intro v w1 hx;(repeat intro (zq:v _=_));intro bb hbb;subst hbb;have n0:w1.cell? ⟨gs,0,none⟩=some (.int .i64 lim):=(K0.out.ext (hdr.trans hx)).cell 0;have n1:w1.cell? ⟨gs,1,none⟩=some (.slice A T capa):=(K0.out.ext (hdr.trans hx)).cell 1;intro K hK;go_simp;exact hK _ _ (Ext.refl _) rfl
 case g4=>
  intro v w1 hx;(repeat intro (zq:v _=_));intro bb hbb;subst hbb;intro K hK;go_simp;refine Q0d (Q7s w1 _ _ (HSH.out.ext (HXW.out.trans (hdr.trans hx))) (by rw [HT.out]; omega)) ?_
  rintro e w2 ⟨u,rfl,hown,hx2⟩;exact ⟨_,rfl,hK _ _ hx2 (Q0m.weaken hown (Nat.zero_le _))⟩
 case g5=>
  intro v w1 hx (q0:v 0=_) (q1:v 1=_) (q2:v 2=_) (q3:v 3=_) (q4:(fun v w'=>Q0m w' 0 3 (.int .i64) (v 4) s.ships) v w1);intro bb hbb;obtain ⟨s9,c9,e9,_⟩:=Q0m.shape q4;have o1:bb.eval (.tmp 7)=.int .i64 lim:=by rw [hbb]; dsimp only; (try simp (discharger:=decide) only [eval_put_ne]); rw [Q0a (by simp only [size_put]; exact (by decide:7 < 40))]; exact q1
  have o2:bb.eval (.tmp 10)=v 4:=by rw [hbb]; dsimp only; (try simp (discharger:=decide) only [eval_put_ne]); rw [Q0a (by simp only [size_put]; exact (by decide:10 < 40))]
  rw [e9] at o2;exact ⟨_,fun w=>Y3h _ (.tmp 7) (.tmp 10) rfl o1 o2 (fun w=>Y3u w _ _ _ _),by show Value.agg #[.int .i64 lim,.slice s9 s.ships.length c9,.slice none 0 0]=Value.agg #[.int .i64 lim,v 4,.slice none 0 0]; rw [e9]⟩
 case g6=>
  intro v w1 hx;intro bb hbb;subst hbb;intro K hK;go_simp;exact hK _ _ (Ext.box _ _) ⟨_,rfl,Blk.made _ _ _,(hdr.trans hx).size⟩
 case g7=>
  intro v w1 hx (q0:v 0=_) (q1:v 1=_) (q2:v 2=_) (q3:v 3=_) (q4:(fun v w'=>Q0m w' 0 3 (.int .i64) (v 4) s.ships) v w1) (q5:(fun v w'=>v 5=.agg #[.int .i64 lim,v 4,.slice none 0 0]) v w1) (q6:(fun v w'=>∃ g,v 6=.pointer (some ⟨g,0,none⟩) /\ Blk w' g 34 #[.int .i64 0,.slice none 0 0,.slice none 0 0] /\ W.heap.size <= g) v w1);intro wl hT;obtain rfl:wl=w1:=hT;intro bb hbb;intro K hK;obtain ⟨g,e13,h13,h13s⟩:=q6;obtain ⟨s9,c9,e9,_⟩:=Q0m.shape q4;have o1:bb.eval (.tmp 3)=.pointer (some ⟨g,0,none⟩):=by rw [hbb]; dsimp only; (try simp (discharger:=decide) only [eval_put_ne]); rw [Q0a (by simp only [size_put]; exact (by decide:3 < 40))]; exact e13
  have o2:bb.eval (.tmp 11)=.agg #[.int .i64 lim,v 4,.slice none 0 0]:=by rw [hbb]; dsimp only; (try simp (discharger:=decide) only [eval_put_ne]); rw [Q0a (by simp only [size_put]; exact (by decide:11 < 40))]; exact q5
  exact Q1m (.tmp 3) (.tmp 11) _ rfl Tryz.X7q o1 o2 h13 rfl rfl (by intro u hu; rw [e9] at hu; simp only [List.mem_cons,List.not_mem_nil,or_false] at hu; rcases hu with rfl | rfl | rfl <;> rfl) (fun vv w' hb hl ho=>hK _ _ ⟨g,e13,h13,hb,hl,ho,h13s,q4⟩)
 case post =>
  intro v w1 hx (q0:v 0=_) (q1:v 1=_) (q2:v 2=_) (q3:v 3=_) (q4:(fun v w'=>Q0m w' 0 3 (.int .i64) (v 4) s.ships) v w1) (q5:(fun v w'=>v 5=.agg #[.int .i64 lim,v 4,.slice none 0 0]) v w1) (q6:(fun v w'=>∃ g,v 6=.pointer (some ⟨g,0,none⟩) /\ Blk w' g 34 #[.int .i64 0,.slice none 0 0,.slice none 0 0] /\ W.heap.size <= g) v w1);intro w2 hE;replace hE:(fun v w1 w'=>∃ g,v 6=.pointer (some ⟨g,0,none⟩) /\ Blk w1 g 34 #[.int .i64 0,.slice none 0 0,.slice none 0 0] /\ Blk w' g 34 #[.int .i64 lim,v 4,.slice none 0 0] /\ (∀ n,n <= g -> Below n w1 w') /\ (∀ k,k ≠ g -> w'.heap[k]?=w1.heap[k]?) /\ W.heap.size <= g /\ Q0m w1 0 3 (.int .i64) (v 4) s.ships) v w1 w2:=hE;simp only [Flow.acts,Act.put];go_simp;obtain ⟨O,e6,hbO,hb9,hl9,ho9,hOs,hu4⟩:=hE;have hxx:=hdr.trans hx;have hx2:Ext W w2:=Below.trans hxx (hl9 _ hOs);have hus:=Q5m hu4 hbO (by decide) ho9
  obtain ⟨su,cu,eu,_⟩:=hus.shape;have HX2:=hid hx2;have HK0:=hid (K0.out.ext hx2);have HK1:=hid (K1.out.ext hx2);have HOW:Hid (W.heap.size <= O):=hid hOs;rw [e6];obtain ⟨uv,huv⟩:∃ z,v 4=z:=⟨_,rfl⟩;rw [huv] at hb9 hus eu ⊢;have HU:=hid hus;have HBO:=hid hb9;have HEU:=hid eu;have hgO:gs + 1 + 1 <= O:=by omega
  have hOw:O + 1 <= w2.heap.size:=by have:=hb9.lt; omega
  have c2:w2.cell? ⟨gs,2,none⟩=some (.slice B n capb):=HK0.out.cell 2;obtain ⟨wb,rfl⟩:∃ Z,Z=w2:=⟨_,rfl⟩;clear hx hdr hxx hx2 hus eu hbO hb9 hl9 ho9 hOs hu4 e6 huv eW q0 q1 q2 q3 q4 q5 q6;go_wp2_with fail;clear c2
  go_loopw [15] (fun i wr=>∃ (k:Nat) (xv:Value) (qs:List MV),k <= n /\ i=.int .i64 k /\ Q1g wr wb.heap.size 69 5 Y9l xv qs /\ qs.map (·.1)=s.members.take k /\ J6h wr qs /\ Q0m wr 0 3 (.int .i64) uv s.ships /\ Blk wr O 34 #[.int .i64 lim,uv,xv] /\ Off O wb wr) (fun i _=>n - (intOf i).toNat)
  case atStart=>exact ⟨0,_,[],Nat.zero_le _,rfl,Q1g.nil _ _ _ _ _,rfl,(fun q hq=>by simp at hq),HU.out,HBO.out,Off.refl _ _⟩
  case round =>
   obtain ⟨k,xv,qs,hk,rfl,hown,hqs,hmr,hu,hbo,hoff⟩:=hrel;have hqk:qs.length=k:=by rw [<- List.length_map (f:=(·.1)),hqs,List.length_take,HN.out]; omega
   have hxr:Ext w wr:=Below.trans HXW.out (Below.trans (HX2.out.mono (by have:=HGS.out; have:=HXW.out.size; omega)) (hoff.1.mono (by have:=HGS.out; omega)))
   have HQS:=hid hqs;have HMR:=hid hmr;have HUU:=hid hu;have HOWN:=hid hown;have HBK:=hid hbo;have HOF:=hid hoff
   by_cases hlt:k < n
   . have hkI:(k:Int) < n:=by omega
     obtain ⟨b1,off,x,y,z,rfl,hb,e0,e1,e2,e3,e4,hi1,hi2,hi3,hsn⟩:=HC.out k hlt;replace e0:=hxr.cell e0;replace e1:=hxr.cell e1;replace e2:=hxr.cell e2;replace e3:=hxr.cell e3;replace e4:=hxr.cell e4;obtain ⟨X,capx,rfl,-,-,-⟩:=hi1.opened;obtain ⟨Y,capy,rfl,-,-,-⟩:=hi2.opened;obtain ⟨Z,capz,rfl,-,-,-⟩:=hi3.opened;have hsh:=HS.out.each k (by rw [HN.out]; exact hlt)
     obtain ⟨-,hs1,hs2,hs3⟩:=hsh;have htk:s.members.take (k + 1)=s.members.take k ++ [⟨Q1o s.members k,Q0k s.members k,Q0c s.members k,Q0z s.members k,Q1f s.members k⟩]:=by
      rw [List.take_succ_eq_append_getElem (by rw [HN.out]; exact hlt)]
      unfold Q1o Q0k Q0c Q0z Q1f;rw [Q0t _ (by rw [HN.out]; exact hlt)]
     have HTK:=hid htk;have HI1:=hid (hi1.ext hxr);have HI2:=hid (hi2.ext hxr);have HI3:=hid (hi3.ext hxr);obtain ⟨nm,hnm⟩:∃ x,Q1o s.members k=x:=⟨_,rfl⟩;obtain ⟨wt,hwt⟩:∃ x,Q0k s.members k=x:=⟨_,rfl⟩;obtain ⟨l1,hl1⟩:∃ x,Q0c s.members k=x:=⟨_,rfl⟩;obtain ⟨l2,hl2⟩:∃ x,Q0z s.members k=x:=⟨_,rfl⟩;obtain ⟨l3,hl3⟩:∃ x,Q1f s.members k=x:=⟨_,rfl⟩;rw [hnm,hwt,hl1,hl2,hl3] at HTK;rw [hnm] at e0;rw [hwt] at e1;rw [hl1] at e2 HI1 hs1;rw [hl2] at e3 HI2 hs2;rw [hl3] at e4 HI3 hs3;obtain ⟨wq,rfl⟩:∃ Z,Z=wr:=⟨_,rfl⟩;clear hown hqs hmr hu hbo hoff hxr hi1 hi2 hi3 hsn htk hnm hwt hl1 hl2 hl3;go_wp2_with (with_reducible (refine Z9j ?_); refine Q0x rfl _ _ _ rfl Tryz.J2x rfl rfl (Blk.made _ _ _) rfl rfl J7s ?_; intro w3 hb3 hl3' ho3; refine halted ?_);obtain ⟨gm,hgm⟩:∃ x,wq.heap.size=x:=⟨_,rfl⟩;have hx3:Ext wq w3:=Below.trans (Ext.box wq _) (hl3' _ (Nat.le_refl _));rw [hgm] at hb3 ⊢;have hgO:O < gm:=by have:=HBK.out.lt; omega
     have KB:=hid hb3;have HX3:=hid hx3;have HBK3:=hid (HBK.out.ext hx3);have HOW3:=hid (HOWN.out.below hx3);have HMR3:Hid (J6h w3 qs):=hid (fun q hq=>(HMR.out q hq).ext hx3);have HU3:=hid (HUU.out.below hx3);have HOF3:=hid (HOF.out.ext hx3 (by omega))
     have HJ1:=hid (HI1.out.ext hx3);have HJ2:=hid (HI2.out.ext hx3);have HJ3:=hid (HI3.out.ext hx3);have hdr:=(Ext.refl w3).drew;have hs3w:wb.heap.size <= w3.heap.size:=HOF3.out.2.1;clear hb3 hl3' ho3 hx3 hgm e0 e1 e2 e3 e4;unfold Q1j;go_wp2_with fail;refine Flow.Q4c [.p,.w,.p,.w,.p,.w,.p,.w,.w,.p,.w,.w,.p,.w,.w,.p,.w,.last,.last,.last] [0,1,2,3,4,5,6,7,8,9,10,11,12,13,14,15,16,17,18,19] [[],[0],[],[2],[],[4],[],[6],[6,7],[],[9],[6,7,8,9,10],[],[12],[6,7,8,9,10,11,12,13],[2,3,4,5,6,7,8,9,10,11,12,13,14],[2,3,4,5,6,7,8,9,10,11,12,13,14,15],[0,1,2,3,4,5,6,7,8,9,10,11,12,13,14,15,16],[0,1,2,3,4,5,6,7,8,9,10,11,12,13,14,15,16,17],[0,1,2,3,4,5,6,7,8,9,10,11,12,13,14,15,16,17,18]] [17,18,19]
      [.c 0 (.pointer (some ⟨O,2,none⟩)),.c 1 (xv),.c 2 (.pointer (some ⟨gm,0,none⟩)),.c 3 (.string nm),.c 4 (.pointer (some ⟨gm,1,none⟩)),.c 5 (.int .i64 wt),.c 6 (.pointer (some ⟨gm,2,none⟩)),.c 7 (.slice X l1.length capx),⟨fun v wz=>(fun v w'=>Q0m w' 0 3 (.int .i64) (v 8) l1) v wz,fun _ _ _ hx h=>Q0m.below h hx⟩,.c 9 (.pointer (some ⟨gm,3,none⟩)),.c 10 (.slice Y l2.length capy),⟨fun v wz=>(fun v w'=>Q0m w' 0 3 (.int .i64) (v 11) l2) v wz,fun _ _ _ hx h=>Q0m.below h hx⟩,.c 12 (.pointer (some ⟨gm,4,none⟩)),.c 13 (.slice Z l3.length capz),⟨fun v wz=>(fun v w'=>Q0m w' 0 3 (.int .i64) (v 14) l3) v wz,fun _ _ _ hx h=>Q0m.below h hx⟩,⟨fun v wz=>(fun v w'=>v 15=.agg #[.string nm,.int .i64 wt,v 8,v 11,v 14]) v wz,by intro _ _ _ _ h; exact h⟩,⟨fun v wz=>(fun v w'=>∃ g,v 16=.slice (some ⟨g,0,none⟩) 1 1 /\ Blk w' g 69 (Y9l (⟨nm,wt,l1,l2,l3⟩,v 8,v 11,v 14)).toArray) v wz,by rintro v a b hx ⟨g,h1,h2⟩; exact ⟨g,h1,h2.ext hx⟩⟩,.none,.none,.none]
      [fun v w1 w'=>Q1g w' wb.heap.size 69 5 Y9l (v 17) (qs ++ [(⟨nm,wt,l1,l2,l3⟩,v 8,v 11,v 14)]) /\ w1.grownBy w' xv.ownBlock,fun v w1 w'=>v 18=.pointer (some ⟨O,2,none⟩) /\ Q1g w' wb.heap.size 69 5 Y9l (v 17) (qs ++ [(⟨nm,wt,l1,l2,l3⟩,v 8,v 11,v 14)]) /\ w1.grownBy w' xv.ownBlock,fun v w1 w'=>∃ x wm,Q1g wm wb.heap.size 69 5 Y9l x (qs ++ [(⟨nm,wt,l1,l2,l3⟩,v 8,v 11,v 14)]) /\ w1.grownBy wm xv.ownBlock /\ w'=wm.setCell ⟨O,2,none⟩ x] (by kernel_rfl) rfl (by kernel_rfl) ⟨?g0,?g1,?g2,?g3,?g4,?g5,?g6,?g7,?g8,?g9,?g10,?g11,?g12,?g13,?g14,?g15,?g16,?g17,?g18,?g19,trivial⟩ ?post
     case g0 | g2 | g4 | g6 | g9 | g12=>
      intro v w1 hx;intro bb hbb;subst hbb;refine ⟨_,fun w=>?_,rfl⟩;go_simp
     case g1 | g3 | g5 | g7 | g10 | g13=>
      intro v w1 hx;(repeat intro (zq:v _=_));intro bb hbb;subst hbb;have n0:w1.cell? ⟨O,2,none⟩=some xv:=(HBK3.out.ext (hdr.trans hx)).cell 2;have n1:w1.cell? ⟨gm,0,none⟩=some (.string nm):=(KB.out.ext (hdr.trans hx)).cell 0;have n2:w1.cell? ⟨gm,1,none⟩=some (.int .i64 wt):=(KB.out.ext (hdr.trans hx)).cell 1;have n3:w1.cell? ⟨gm,2,none⟩=some (.slice X l1.length capx):=(KB.out.ext (hdr.trans hx)).cell 2;have n4:w1.cell? ⟨gm,3,none⟩=some (.slice Y l2.length capy):=(KB.out.ext (hdr.trans hx)).cell 3;have n5:w1.cell? ⟨gm,4,none⟩=some (.slice Z l3.length capz):=(KB.out.ext (hdr.trans hx)).cell 4;intro K hK;go_simp;exact hK _ _ (Ext.refl _) rfl
     case g8=>
      intro v w1 hx;(repeat intro (zq:v _=_));intro bb hbb;subst hbb;intro K hK;go_simp;refine Q0d (Q7s w1 _ _ (HJ1.out.ext (hdr.trans hx)) (by omega)) ?_
      rintro e w2 ⟨u,rfl,hown,hx2⟩;exact ⟨_,rfl,hK _ _ hx2 (Q0m.weaken hown (Nat.zero_le _))⟩
     case g11=>
      intro v w1 hx (q6:v 6=_) (q7:v 7=_) _ (q9:v 9=_) (q10:v 10=_);intro bb hbb;subst hbb;intro K hK;go_simp;refine Q0d (Q7s w1 _ _ (HJ2.out.ext (hdr.trans hx)) (by omega)) ?_
      rintro e w2 ⟨u,rfl,hown,hx2⟩;exact ⟨_,rfl,hK _ _ hx2 (Q0m.weaken hown (Nat.zero_le _))⟩
     case g14=>
      intro v w1 hx (q6:v 6=_) (q7:v 7=_) _ (q9:v 9=_) (q10:v 10=_) _ (q12:v 12=_) (q13:v 13=_);intro bb hbb;subst hbb;intro K hK;go_simp;refine Q0d (Q7s w1 _ _ (HJ3.out.ext (hdr.trans hx)) (by omega)) ?_
      rintro e w2 ⟨u,rfl,hown,hx2⟩;exact ⟨_,rfl,hK _ _ hx2 (Q0m.weaken hown (Nat.zero_le _))⟩
     case g15=>
      intro v w1 hx (q2:v 2=_) (q3:v 3=_) (q4:v 4=_) (q5:v 5=_) (q6:v 6=_) (q7:v 7=_) (q8:(fun v w'=>Q0m w' 0 3 (.int .i64) (v 8) l1) v w1) (q9:v 9=_) (q10:v 10=_) (q11:(fun v w'=>Q0m w' 0 3 (.int .i64) (v 11) l2) v w1) (q12:v 12=_) (q13:v 13=_) (q14:(fun v w'=>Q0m w' 0 3 (.int .i64) (v 14) l3) v w1);intro bb hbb;obtain ⟨s9,c9,e9,_⟩:=Q0m.shape q8;obtain ⟨s10,c10,e10,_⟩:=Q0m.shape q11;obtain ⟨s11,c11,e11,_⟩:=Q0m.shape q14;have o1:bb.eval (.tmp 22)=.string nm:=by rw [hbb]; dsimp only; (try simp (discharger:=decide) only [eval_put_ne]); rw [Q0a (by simp only [size_put]; exact (by decide:22 < 40))]; exact q3
      have o2:bb.eval (.tmp 24)=.int .i64 wt:=by rw [hbb]; dsimp only; (try simp (discharger:=decide) only [eval_put_ne]); rw [Q0a (by simp only [size_put]; exact (by decide:24 < 40))]; exact q5
      have o3:bb.eval (.tmp 27)=v 8:=by rw [hbb]; dsimp only; (try simp (discharger:=decide) only [eval_put_ne]); rw [Q0a (by simp only [size_put]; exact (by decide:27 < 40))]
      have o4:bb.eval (.tmp 30)=v 11:=by rw [hbb]; dsimp only; (try simp (discharger:=decide) only [eval_put_ne]); rw [Q0a (by simp only [size_put]; exact (by decide:30 < 40))]
      have o5:bb.eval (.tmp 33)=v 14:=by rw [hbb]; dsimp only; (try simp (discharger:=decide) only [eval_put_ne]); rw [Q0a (by simp only [size_put]; exact (by decide:33 < 40))]
      rw [e9] at o3;rw [e10] at o4;rw [e11] at o5;exact ⟨_,fun w=>Z5t _ (.tmp 22) (.tmp 24) (.tmp 27) (.tmp 30) (.tmp 33) rfl o1 o2 o3 o4 o5 (fun w=>Y7p w _ _ _ _ _ _ _ _ _ _ _),by show Value.agg #[.string nm,.int .i64 wt,.slice s9 l1.length c9,.slice s10 l2.length c10,.slice s11 l3.length c11]=Value.agg #[.string nm,.int .i64 wt,v 8,v 11,v 14]; rw [e9,e10,e11]⟩
     case g16=>
      intro v w1 hx (q2:v 2=_) (q3:v 3=_) (q4:v 4=_) (q5:v 5=_) (q6:v 6=_) (q7:v 7=_) (q8:(fun v w'=>Q0m w' 0 3 (.int .i64) (v 8) l1) v w1) (q9:v 9=_) (q10:v 10=_) (q11:(fun v w'=>Q0m w' 0 3 (.int .i64) (v 11) l2) v w1) (q12:v 12=_) (q13:v 13=_) (q14:(fun v w'=>Q0m w' 0 3 (.int .i64) (v 14) l3) v w1) (q15:(fun v w'=>v 15=.agg #[.string nm,.int .i64 wt,v 8,v 11,v 14]) v w1);intro bb hbb;intro K hK;obtain ⟨s9,c9,e9,_⟩:=Q0m.shape q8;obtain ⟨s10,c10,e10,_⟩:=Q0m.shape q11;obtain ⟨s11,c11,e11,_⟩:=Q0m.shape q14;have o1:bb.eval (.tmp 34)=.agg #[.string nm,.int .i64 wt,v 8,v 11,v 14]:=by rw [hbb]; dsimp only; (try simp (discharger:=decide) only [eval_put_ne]); rw [Q0a (by simp only [size_put]; exact (by decide:34 < 40))]; exact q15
      rw [e9,e10,e11] at o1;have hbl:Blk (w1.alloc (.cells (Value.agg #[.string nm,.int .i64 wt,.slice s9 l1.length c9,.slice s10 l2.length c10,.slice s11 l3.length c11]).cells 69)) w1.heap.size 69 (Y9l (⟨nm,wt,l1,l2,l3⟩,v 8,v 11,v 14)).toArray:=by rw [e9,e10,e11]; exact Blk.made _ _ _
      exact Q4j 32 69 (.tmp 34) rfl o1 (Z8z w1 _ _ _ _ _ _ _ _ _ _ _) (hK _ _ (Ext.box _ _) ⟨_,rfl,hbl⟩)
     case g17=>
      intro v w1 hx (q0:v 0=_) (q1:v 1=_) (q2:v 2=_) (q3:v 3=_) (q4:v 4=_) (q5:v 5=_) (q6:v 6=_) (q7:v 7=_) (q8:(fun v w'=>Q0m w' 0 3 (.int .i64) (v 8) l1) v w1) (q9:v 9=_) (q10:v 10=_) (q11:(fun v w'=>Q0m w' 0 3 (.int .i64) (v 11) l2) v w1) (q12:v 12=_) (q13:v 13=_) (q14:(fun v w'=>Q0m w' 0 3 (.int .i64) (v 14) l3) v w1) _ (q16:(fun v w'=>∃ g,v 16=.slice (some ⟨g,0,none⟩) 1 1 /\ Blk w' g 69 (Y9l (⟨nm,wt,l1,l2,l3⟩,v 8,v 11,v 14)).toArray) v w1);intro wl hT;obtain rfl:wl=w1:=hT;intro bb hbb;intro K hK;obtain ⟨g,hg10,hb10⟩:=q16;have o1:bb.eval (.tmp 20)=xv:=by rw [hbb]; dsimp only; (try simp (discharger:=decide) only [eval_put_ne]); rw [Q0a (by simp only [size_put]; exact (by decide:20 < 40))]; exact q1
      have o2:bb.eval (.tmp 35)=.slice (some ⟨g,0,none⟩) 1 1:=by rw [hbb]; dsimp only; (try simp (discharger:=decide) only [eval_put_ne]); rw [Q0a (by simp only [size_put]; exact (by decide:35 < 40))]; exact hg10
      have hxx:=hdr.trans hx;exact Q2u _ _ 32 rfl wb.heap.size 69 l0 (.agg #[.string ⟨#[]⟩,.int .i64 0,.slice none 0 0,.slice none 0 0,.slice none 0 0]) 5 96 Tryz.underlying32 li lz0 lz1 lz2 rfl (by decide) Y9l Z2i xv _ (⟨nm,wt,l1,l2,l3⟩,v 8,v 11,v 14) o1 (HOW3.out.below hxx) ⟨g,0,none⟩ 1 o2 (Q6e hb10) (Y6q.one (q:=(⟨nm,wt,l1,l2,l3⟩,v 8,v 11,v 14)) ⟨q8,q11,q14⟩) (by omega) (by decide) (by have:=hxx.size; omega) (fun v' w' h1 h2=>hK _ _ ⟨h1,h2⟩)
     case g18=>
      intro v w1 hx (q0:v 0=_) (q1:v 1=_) (q2:v 2=_) (q3:v 3=_) (q4:v 4=_) (q5:v 5=_) (q6:v 6=_) (q7:v 7=_) _ (q9:v 9=_) (q10:v 10=_) _ (q12:v 12=_) (q13:v 13=_) _ _ _;intro wl hT;replace hT:(fun v w1 w'=>Q1g w' wb.heap.size 69 5 Y9l (v 17) (qs ++ [(⟨nm,wt,l1,l2,l3⟩,v 8,v 11,v 14)]) /\ w1.grownBy w' xv.ownBlock) v w1 wl:=hT;intro bb hbb;subst hbb;intro K hK;go_simp;exact hK _ _ ⟨rfl,hT⟩
     case g19=>
      intro v w1 hx (q0:v 0=_) (q1:v 1=_) (q2:v 2=_) (q3:v 3=_) (q4:v 4=_) (q5:v 5=_) (q6:v 6=_) (q7:v 7=_) _ (q9:v 9=_) (q10:v 10=_) _ (q12:v 12=_) (q13:v 13=_) _ _ _;intro wl hT;replace hT:(fun v w1 w'=>v 18=.pointer (some ⟨O,2,none⟩) /\ Q1g w' wb.heap.size 69 5 Y9l (v 17) (qs ++ [(⟨nm,wt,l1,l2,l3⟩,v 8,v 11,v 14)]) /\ w1.grownBy w' xv.ownBlock) v w1 wl:=hT;intro bb hbb;intro K hK;obtain ⟨hT0,hT1,hT2⟩:=hT;have hxx:=hdr.trans hx;obtain ⟨bp,cp,hsh,_⟩:=hT1.shape;have o1:bb.eval (.tmp 37)=.pointer (some ⟨O,2,none⟩):=by rw [hbb]; dsimp only; (try simp (discharger:=decide) only [eval_put_ne]); rw [Q0a (by simp only [size_put]; exact (by decide:37 < 40))]; exact hT0
      have o2:bb.eval (.tmp 36)=v 17:=by rw [hbb]; dsimp only; (try simp (discharger:=decide) only [eval_put_ne]); rw [Q0a (by simp only [size_put]; exact (by decide:36 < 40))]
      have hbl:=Go.Tw.Q6j (HBK3.out.ext hxx) (HOW3.out.below hxx) (by omega) hT2
      exact Q5a _ _ rfl Tryz.J3o (g:=O) (k:=2) o1 o2 (by rw [hsh]; rfl) (by rw [hsh]; rfl) hbl (by show 2 < 3; omega) (fun v'=>hK _ _ ⟨v 17,wl,hT1,hT2,rfl⟩)
     case post =>
      intro v w1 hx;(iterate 8 intro (zq:v _=_));intro (q8:(fun v w'=>Q0m w' 0 3 (.int .i64) (v 8) l1) v w1);(iterate 2 intro (zq:v _=_));intro (q11:(fun v w'=>Q0m w' 0 3 (.int .i64) (v 11) l2) v w1);(iterate 2 intro (zq:v _=_));intro (q14:(fun v w'=>Q0m w' 0 3 (.int .i64) (v 14) l3) v w1) (q15:(fun v w'=>v 15=.agg #[.string nm,.int .i64 wt,v 8,v 11,v 14]) v w1) (q16:(fun v w'=>∃ g,v 16=.slice (some ⟨g,0,none⟩) 1 1 /\ Blk w' g 69 (Y9l (⟨nm,wt,l1,l2,l3⟩,v 8,v 11,v 14)).toArray) v w1);intro w2 hE;replace hE:(fun v w1 w'=>∃ x wm,Q1g wm wb.heap.size 69 5 Y9l x (qs ++ [(⟨nm,wt,l1,l2,l3⟩,v 8,v 11,v 14)]) /\ w1.grownBy wm xv.ownBlock /\ w'=wm.setCell ⟨O,2,none⟩ x) v w1 w2:=hE;simp only [Flow.acts,Act.put];go_simp;obtain ⟨x,wm,hom,hgm,rfl⟩:=hE;have hxx:=hdr.trans hx;have hbm:=Go.Tw.Q6j (HBK3.out.ext hxx) (HOW3.out.below hxx) (by omega) hgm
      have hof:=((HOF3.out.ext hxx (by omega)).grown (HOW3.out.below hxx) (by omega) (by omega) hgm).set 2 x
      have HO6:=hid (hom.X2h (p:=⟨O,2,none⟩) (by show O < wb.heap.size; omega) x)
      have HB6:=hid (hbm.set 2 x);have HOF6:=hid hof;have HU6:=hid (Q9z (u:=x) (k:=2) (Q4f (HU3.out.below hxx) (HOW3.out.below hxx) (by decide) hgm) hbm (by decide))
      have HM6:Hid (J6h (wm.setCell ⟨O,2,none⟩ x) (qs ++ [(⟨nm,wt,l1,l2,l3⟩,v 8,v 11,v 14)])):=hid (fun q hq=>by
       rcases List.mem_append.1 hq with hq | hq
       . exact (((HMR3.out q hq).ext hxx).grown (HOW3.out.below hxx) (by decide) hgm).set hbm (by decide)
       . rw [List.mem_singleton.1 hq]
         exact (Y6q.grown (q:=(⟨nm,wt,l1,l2,l3⟩,v 8,v 11,v 14)) ⟨q8,q11,q14⟩ (HOW3.out.below hxx) (by decide) hgm).set hbm (by decide))
      obtain ⟨w6,hw6⟩:∃ y,wm.setCell ⟨O,2,none⟩ x=y:=⟨_,rfl⟩;rw [hw6] at HO6 HB6 HOF6 HU6 HM6 ⊢;clear hw6 hom hgm hxx hx hbm hof hdr q8 q11 q14 q15 q16;(repeat clear zq);go_wp2;go_roundw
      case rel=>exact ⟨k + 1,x,qs ++ [(⟨nm,wt,l1,l2,l3⟩,v 8,v 11,v 14)],by omega,by go_num,HO6.out,by rw [List.map_append,HQS.out,HTK.out]; rfl,HM6.out,HU6.out,HB6.out,HOF6.out⟩
      case measure=>simp [intOf]; omega
   . have hkI:¬ (k:Int) < n:=by omega
     have hkn:k=n:=by omega
     have hall:s.members.take k=s.members:=by rw [List.take_of_length_le (by rw [HN.out]; omega)]
     rw [hall] at hqs;have hsm:∀ q ∈ qs,Short q.1.name /\ q.1.classes.length <= 1000 /\ q.1.outside.length <= 1000 /\ q.1.inflow.length <= 1000:=fun q hq=>by
      have hm:q.1 ∈ s.members:=by rw [<- hqs]; exact List.mem_map_of_mem hq
      obtain ⟨j,hj,he⟩:=List.getElem_of_mem hm;obtain ⟨_,_,_,_,_,_,_,_,_,_,_,_,_,_,_,hsn⟩:=HC.out j (by rw [<- HN.out]; exact hj)
      obtain ⟨-,h1,h2,h3⟩:=HS.out.each j hj;unfold Q1o at hsn;unfold Q0c at h1;unfold Q0z at h2;unfold Q1f at h3;rw [Q0t _ hj,he] at hsn h1 h2 h3;exact ⟨hsn,by omega,by omega,by omega⟩
     have HSM:=hid hsm;have hr:=HK1.out.below HOF.out.1 (by omega)
     have HRR:=hid hr;have HXR:=hid hxr;have HXO:=hid hqs;have HOWN:=hid hown;have HBO2:=hid hbo;obtain ⟨ax,cx,ex,-⟩:=hown.shape;have HQK:=hid hqk;have hone:∀ u ∈ (#[Value.int .i64 lim,uv,xv]:Array Value).toList,u.oneCell'=true:=by
      intro u hu;simp only [List.mem_cons,List.not_mem_nil,or_false] at hu
      rcases hu with rfl | rfl | rfl
      . rfl
      . rw [HEU.out]; rfl
      . rw [ex]; rfl
     have HONE:=hid hone;clear hown hqs hmr hu hbo hoff hxr hall hsm hone ex hqk;go_wp2_with (first | (refine Q9l rfl _ _ rfl Tryz.Z6t Tryz.X7q rfl HBO2.out rfl ?_) | (refine Q0x rfl _ _ 34 rfl Tryz.X7q rfl rfl hr rfl rfl HONE.out ?_; intro w9 hb9 hl9 ho9))
     refine bodyPost_ret (Q1w Tryz.results20 rfl hb9 Tryz.Z6t Tryz.X7q) rfl ?_;refine ⟨_,rfl,⟨_,_,by rw [<- HLIM.out],⟨?_,?_⟩⟩,Below.trans HXR.out (hl9 _ (by have:=HGS.out; omega))⟩
     . exact (Q5m HUU.out HRR.out (by decide) ho9).ints (by rw [HT.out]; omega)
     . have h:=Z7i (HOWN.out.only (g:=gs + 1) (by omega) ho9) (by rw [HQK.out]; omega) (fun q hq=>(HMR.out q hq).only HRR.out (by decide) ho9) HSM.out
       rw [HXO.out] at h;exact h
end Go.Proofs
namespace Go.Proofs
open Go.RowKit Go.Tw Go.Flow
theorem Tryz.info22:(Tryz.prog.info? 22).map (fun i=>(i.zero,i.size,i.bytes))=some (some (.slice none 0 0),1,24):=by kernel_rfl
def RL (w:World) (vs:List Value) (ll:List (List Int)):Prop:=vs.length=ll.length /\ ∀ j,j < ll.length -> Q0m w 0 3 (.int .i64) (vs.getD j undef) (ll.getD j [])
def LL (w:World) (B:Nat) (v:Value) (ll:List (List Int)):Prop:=∃ vs,Q0m w B 22 idV v vs /\ RL w vs ll
theorem RL.ext {w w':World} {vs:List Value} {ll:List (List Int)} (h:RL w vs ll) (hx:Ext w w'):RL w' vs ll:=⟨h.1,fun j hj=>(h.2 j hj).below hx⟩
theorem LL.ext {w w':World} {B:Nat} {v:Value} {ll:List (List Int)} (h:LL w B v ll) (hx:Ext w w'):LL w' B v ll:=let ⟨vs,h1,h2⟩:=h; ⟨vs,h1.below hx,h2.ext hx⟩
theorem LL.weaken {w:World} {B B':Nat} {v:Value} {ll:List (List Int)} (h:LL w B v ll) (hb:B' <= B):LL w B' v ll:=let ⟨vs,h1,h2⟩:=h; ⟨vs,h1.weaken hb,h2⟩
theorem LL.nil (w:World) (B:Nat):LL w B (.slice none 0 0) []:=⟨[],Q0m.nil _ _ _ _,rfl,fun j hj=>by simp at hj⟩
theorem J0n {w:World} {v:Value} {l:List Int} (h:Q0m w 0 3 (.int .i64) v l):(idV v).oneCell'=true:=by
 obtain ⟨b,c,rfl,_⟩:=h.shape;rfl
theorem RL.one {w:World} {vs:List Value} {ll:List (List Int)} (h:RL w vs ll):∀ y ∈ vs,(idV y).oneCell'=true:=by
 intro y hy;obtain ⟨i,hi,rfl⟩:=List.getElem_of_mem hy;have h2:=h.2 i (by rw [<- h.1]; exact hi)
 rw [Q0t _ hi] at h2;exact J0n h2
theorem RL.insert {w:World} {vs:List Value} {ll:List (List Int)} {v:Value} {l:List Int} {n:Nat} (h:RL w vs ll) (hv:Q0m w 0 3 (.int .i64) v l) (hn:n <= ll.length):RL w (vs.take n ++ [v] ++ vs.drop n) (ll.take n ++ [l] ++ ll.drop n):=by
 obtain ⟨h1,h2⟩:=h;refine ⟨by simp [h1],fun i hi=>?_⟩
 have hlen:(ll.take n ++ [l] ++ ll.drop n).length=ll.length + 1:=by simp; omega
 rw [hlen] at hi;rw [Y0f v undef n vs i (by omega),Y0f l [] n ll i hn]
 by_cases h3:i < n
 . rw [if_pos h3,if_pos h3]; exact h2 i (by omega)
 . rw [if_neg h3,if_neg h3]
   by_cases h4:i=n
   . rw [if_pos h4,if_pos h4]; exact hv
   . rw [if_neg h4,if_neg h4]; exact h2 (i - 1) (by omega)
theorem Z2p {α:Type} (a b:List α) (d:α) (j:Nat):(a ++ b).getD j d=if j < a.length then a.getD j d else b.getD (j - a.length) d:=by
 by_cases h:j < a.length
 . rw [if_pos h]; simp [List.getElem?_append_left h]
 . rw [if_neg h]; simp [List.getElem?_append_right (show a.length <= j by omega)]
theorem RL.app {w:World} {vs us:List Value} {ll mm:List (List Int)} (h:RL w vs ll) (k:RL w us mm):RL w (vs ++ us) (ll ++ mm):=by
 refine ⟨by simp [h.1,k.1],fun j hj=>?_⟩
 rw [Z2p,Z2p,h.1];rw [List.length_append] at hj
 by_cases h3:j < ll.length
 . rw [if_pos h3,if_pos h3]; exact h.2 j h3
 . rw [if_neg h3,if_neg h3]; exact k.2 _ (by omega)
theorem RL.grown {w w':World} {vs:List Value} {ll:List (List Int)} {base n size:Nat} {cv:Value} {xs:List Value} {e:TypeId} (h:RL w vs ll) (hown:w.ownsRow base e size cv n xs) (he:e ≠ 3) (hg:w.grownBy w' cv.ownBlock):RL w' vs ll :=
 ⟨h.1,fun j hj=>Q4f (h.2 j hj) hown he hg⟩
theorem RL.reads {w:World} {vs:List Value} {ll:List (List Int)} (h:RL w vs ll) (hs:∀ j,j < ll.length -> (ll.getD j []).length <= 1000):Reads w vs ll:=⟨h.1,fun j hj=>(h.2 j hj).ints (by have:=hs j hj; omega)⟩
theorem LL.read {w:World} {B:Nat} {v:Value} {ll:List (List Int)} (h:LL w B v ll) (hl:ll.length <= 2000) (hs:∀ j,j < ll.length -> (ll.getD j []).length <= 1000):Q3q w v ll :=
 let ⟨_,h1,h2⟩:=h; h1.J4x (h2.reads hs) (by omega)
theorem X8r {K:Value -> World -> Prop} {o:Oper} {a:Act} {w:World} (s x:Operand) (ho:o.op=.call { callee:=.builtin .append,args:=#[s,x],argTypes:=#[72,72] })
    {B:Nat} {v u:Value} {L M:List (List Int)} (hs:a.eval s=v) (h1:LL w B v L) (hx:a.eval x=u) (h2:LL w B u M) (hL:L.length <= 2000) (hM:M.length <= 2000) (hB:B <= w.heap.size)
    (hK:∀ v' w',LL w' B v' (L ++ M) -> Below B w w' -> K v' w'):gives Tryz.prog K ((execOp a.eval o).run Tryz.prog w):=by
 obtain ⟨i0,hi,hz0,hz1,hz2⟩:=info_parts Tryz.info22;obtain ⟨vs,o1,m1⟩:=h1;obtain ⟨us,o2,m2⟩:=h2;have l1:=m1.1;have l2:=m2.1;exact Q1n s x 72 ho B 22 i0 (.slice none 0 0) 24 Tryz.underlying72 hi hz0 hz1 hz2 rfl idV v u vs us hs o1 hx (Y3n o2) m2.one (by omega) (by decide) hB fun v' w' hown hg=>hK _ _ ⟨vs ++ us,hown,(m1.grown o1 (by decide) hg).app (m2.grown o1 (by decide) hg)⟩ (below_grown o1 hg (Nat.le_refl _) hB)
theorem Z5n {w:World} {b o n c:Nat} {l:List Int} (h:Q0e w (.slice (some ⟨b,o,none⟩) n c) l) (hn:l.length=n):∀ j u,(l.map (Value.int .i64))[j]?=some u -> w.cell? ((⟨b,o,none⟩:Addr).add j)=some u:=by
 subst hn;obtain ⟨A,cap,hv,hl,hcap,hc⟩:=h.opened;cases hv;intro j u hj;rw [List.getElem?_map] at hj;obtain ⟨y,hy,rfl⟩:=Option.map_eq_some_iff.1 hj;obtain ⟨hjl,rfl⟩:=List.getElem?_eq_some_iff.1 hy;obtain ⟨b',off',he,hcell⟩:=hc j hjl;cases he;rw [addr_add,hcell,Q4n hjl]
theorem Y9v {h:List Int} {row:List (List Int)} {n:Nat} (hn:n=Q1v h row row.length) (h0:n=0 ∨ row.getD (n - 1) [] ≠ h):Q6r h row=row.take n ++ [h] ++ row.drop n:=by
 unfold Q6r;simp only [<- hn];rw [if_neg];rintro ⟨h1,h2⟩
 rcases h0 with h0 | h0
 . omega
 . exact h0 h2
theorem J1r {h:List Int} {row:List (List Int)} {n:Nat} (hn:n=Q1v h row row.length) (h0:0 < n) (he:row.getD (n - 1) []=h):Q6r h row=row:=by
 unfold Q6r;simp only [<- hn];rw [if_pos ⟨h0,he⟩]
theorem Z5g {s:Q0b} {t i:Nat} (hi:i <= s.members.length) (h:∀ k,k < s.members.length -> t + 1 <= (Q0c s.members k).length):∀ j,j < (s.Q5p t i).length -> ((s.Q5p t i).getD j []).length=t + 1:=by
 intro j hj;rw [Q0t _ hj];obtain ⟨k,hk,he⟩:=(Q0b.X3q t _ i).1 (List.getElem_mem hj);rw [he,List.length_take];have:=h k (by omega)
 omega
theorem Z8q {s:Q0b} (hS:Q0u s) {w:World} {B:Nat} {x:Value} (h:LL w B x s.hist):Q3q w x s.hist:=by
 refine h.read (by have:=X2v hS; omega) fun j hj=>?_
 rw [Q0t _ hj];have:=Y7t hS _ (List.getElem_mem hj);omega
theorem J1j {s:Q0b} (hS:Q0u s):0 < s.hist.length:=by
 refine List.length_pos_of_mem (a:=(Q0c s.members 0).take (0 + 1)) ?_;exact (Q0b.Q4h _ _).2 ⟨0,hS.tides.1,0,hS.some.1,rfl⟩
def RuR (w:World) (qs:List (Value × Rul)):Prop:=∀ q ∈ qs,Q0m w 0 3 (.int .i64) q.1 q.2.classes
theorem RuR.ext {w w':World} {qs:List (Value × Rul)} (h:RuR w qs) (hx:Ext w w'):RuR w' qs:=fun q hq=>(h q hq).below hx
theorem RuR.set {w:World} {qs:List (Value × Rul)} {O k:Nat} {u:Value} {S:TypeId} {cs:Array Value} (h:RuR w qs) (hb:Blk w O S cs) (hT:S ≠ 3):RuR (w.setCell ⟨O,k,none⟩ u) qs:=fun q hq=>Q9z (h q hq) hb hT
theorem RuR.grown {w w':World} {qs:List (Value × Rul)} {base n size:Nat} {e:TypeId} {cv:Value} {xs:List Value} (h:RuR w qs) (hown:w.ownsRow base e size cv n xs) (he:e ≠ 3) (hg:w.grownBy w' cv.ownBlock):RuR w' qs:=fun q hq=>Q4f (h q hq) hown he hg
theorem RuR.snoc {w:World} {qs:List (Value × Rul)} {q:Value × Rul} (h:RuR w qs) (hq:Q0m w 0 3 (.int .i64) q.1 q.2.classes):RuR w (qs ++ [q]):=fun x hx=>by
 rcases List.mem_append.1 hx with hx | hx
 . exact h x hx
 . rw [List.mem_singleton.1 hx]; exact hq
theorem Z9y {w:World} {q:Value × Rul} (h:Q0m w 0 3 (.int .i64) q.1 q.2.classes):∀ u ∈ X3u q,u.oneCell'=true:=by
 obtain ⟨b,c,e,_⟩:=h.shape;intro u hu;simp only [X3u,List.mem_cons,List.not_mem_nil,or_false] at hu
 rcases hu with rfl | rfl
 . rw [e]; rfl
 . rfl
theorem Y2b {w:World} {B:Nat} {T:TypeId} {v:Value} {qs:List (Value × Rul)} (h:Q1g w B T 2 X3u v qs) (hl:qs.length <= 100000) (hr:RuR w qs) (hs:∀ q ∈ qs,q.2.classes.length <= 4096):Q3u w v (qs.map (·.2)) :=
 Y1x h hl (fun q hq=>(hr q hq).ints (by have:=hs q hq; omega)) (Ext.refl _)
def J7m (T:TypeId) (w w':World) (x:Value) (p:List Rul):Prop:=∃ vo qs,x=.agg #[vo] /\ Q1g w' w.heap.size T 2 X3u vo qs /\ qs.map (·.2)=p /\ RuR w' qs
theorem J7m.is {T:TypeId} {w w':World} {x:Value} {p:List Rul} (h:J7m T w w' x p) (hl:p.length <= 4096) (hs:∀ r ∈ p,r.classes.length <= 4096):Q0j w' x p:=by
 obtain ⟨vo,qs,rfl,ho,rfl,hr⟩:=h;exact ⟨vo,rfl,Y2b ho (by rw [List.length_map] at hl; omega) hr fun q hq=>hs _ (List.mem_map_of_mem hq)⟩
theorem Tryz.J5m:(Tryz.prog.info? 167).map (fun i=>(i.zero,i.size,i.bytes))=some (some (.agg #[.slice none 0 0,.bool false]),2,32):=by kernel_rfl
theorem Y8e (w:World) (a:Option Addr) (n c:Nat) (b:Bool):(Instr.build 167 #[(0,.slice a n c),(1,.bool b)]).run Tryz.prog w=.ok (.agg #[.slice a n c,.bool b]) w:=by kernel_rfl
theorem Z6z (w:World) (a:Option Addr) (n c:Nat) (b:Bool):(Instr.buildSlice 36 1 #[(0,.agg #[.slice a n c,.bool b])]).run Tryz.prog w=.ok (.slice (some ⟨w.heap.size,0,none⟩) 1 1) (w.alloc (.cells #[.slice a n c,.bool b] 167)):=by kernel_rfl
theorem Tryz.J3j (w:World):(sizeOf 36).run Tryz.prog w=.ok 1 w:=by kernel_rfl
end Go.Proofs
